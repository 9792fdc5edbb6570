/- squeezed. SHA-256: the fraction of a root of -/
import Derived.Test.YtgcjjhibdbafmaaGreatDoorK19
set_option linter.unusedVariables false
set_option linter.unusedSimpArgs false
set_option maxRecDepth 100000
set_option maxHeartbeats 6400000
namespace Go.Proofs.YtgcjjhibdbafmaaGreatDoor
open Go.RowKit
theorem sha_fraction3 (p c:Nat) (hp:primeOK p=true) (hc:c<18446744073709551616) (hf:isFrac 3 p c=true) (w:World) :
 Calls Tryz.prog 107 #[.int .u64 (p:Int),.int .i64 3] w fun e w'=>e=.returned (.int .u64 (c:Int))∧Below w.heap.size w w':=by
 unfold primeOK at hp
 simp only[Bool.and_eq_true,decide_eq_true_eq]at hp
 obtain⟨⟨⟨⟨hp0,hp1⟩,hp3⟩,hp4⟩,hp5⟩:=hp;obtain⟨f0,_,_,e0,_⟩:=chkB_spec hp0;obtain⟨f,g,k,e1,e2,e3,hk1,hk20⟩:=chkB_spec hp1;have SQ:=Hh (fun w=>math_Sqrt (floatOfInt .f64 (p:Int)) f0 e0 w);have CB:=Hh (fun w=>math_Cbrt (floatOfInt .f64 (p:Int)) f hp3 e1 w);have FL:=Hh (fun w=>math_Floor f g e2 w);have CV:=fun w=>run_convert_float_int (P:=Tryz.prog) w 154 22 .f64 .u64 g (k:Int) (by kernel_rfl) (by kernel_rfl) e3
 have HP:=Hh (And.intro hp4 (And.intro hp5 (And.intro hc (And.intro hf (And.intro hk1 hk20)))));have hG0:=Blk.new w 176 #[.int .u64 0,.int .u64 0,.int .u64 0,.int .u64 0];have hb0:=below_box w (.cells #[.int .u64 0,.int .u64 0,.int .u64 0,.int .u64 0] 176);clear hp0 hp1 hp3 e0 hp4 hp5 e1 e2 e3 hk1 hk20 hc hf;go_enter Tryz.func107,Tryz.ntmps107
 go_wp2_with (with_reducible refine stop_store ?_)
 refine wpList_store_cell rfl _ _ _ rfl rfl w.heap.size 3 (.int .u64 (p:Int)) rfl rfl _ _ hG0 size_u64c (by simp) rfl fun w2 hG hg2=>?_
 have hb:=hb0.grown hg2 hb0.size (by rintro q ⟨⟩;exact Nat.le_refl _);replace hG:Blk w2 w.heap.size 176 (rowN [0,0,0,p]):=hG;clear hG0 hb0 hg2;go_wp2_with fail
 refine(SQ.out _).mono ?_
 rintro e w3 ⟨rfl,rfl⟩
 go_wp2_with fail
 refine(CB.out _).mono ?_
 rintro e w3 ⟨rfl,rfl⟩
 go_wp2_with fail
 refine(FL.out _).mono ?_
 rintro e w3 ⟨rfl,rfl⟩
 clear SQ CB FL;go_wp2_with (with_reducible refine stop_fop ?_)
 refine wpList_fop rfl _ _ _ _ _ rfl (by simp) _ _ rfl rfl fun r1 w4 hw4=>?_
 have hG4:=hG.or hw4;have hb4:=below_or hb hw4;go_wp2_with (with_reducible refine stop_fop ?_)
 refine wpList_fop rfl _ _ _ _ _ rfl (by simp) _ _ rfl rfl fun r2 w5 hw5=>?_
 have hG5:=hG4.or hw5;have hb5:=below_or hb4 hw5;go_wp2_with (with_reducible refine stop_fconv ?_)
 refine wpList_fconv rfl _ _ _ rfl (by kernel_rfl) (by kernel_rfl) _ rfl fun m w6 hm hw6=>?_
 have hG6:=hG5.or hw6;have hb6:=below_or hb5 hw6;clear hG hb hG4 hb4 hG5 hb5 hw4 hw5 hw6
 obtain⟨lo,hlo,hlob⟩:∃ n:Nat,IntKind.u64.wrap ((m:Int)*2)=(n:Int)∧n<18446744073709551616:=by
  rw[IntKind.wrap_u64]
  exact⟨((m:Int)*2%18446744073709551616).toNat,by omega,by omega⟩
 have hR:=Blk.new w6 176 (rowN [lo,k,0,0]);have hG7:=hG6.alloc (.cells (rowN [lo,k,0,0]) 176);have hb7:=hb6.alloc hb6.size (.cells (rowN [lo,k,0,0]) 176);obtain⟨R,hRe⟩:∃ R,w6.heap.size=R:=⟨_,rfl⟩
 have hGR:w.heap.size<R:=by rw[← hRe];exact hG6.lt
 rw[hRe]at hR;have HRE:=Hh hRe;have HGR:=Hh hGR;have HM:=Hh (And.intro hm hlob);clear hG6 hb6 hRe hGR hm hlob;go_wp2_with fail
 rw[HRE.out];go_loopw [9,37] (fun v9 v37 wr=>∃ (j s:Nat),v37=.int .i64 (j:Int)∧j≤2∧v9=.float .f64 s∧Blk wr w.heap.size 176 (rowN [0,0,0,p])∧Blk wr R 176 (rowN [lo,k,0,0])∧Below w.heap.size w wr) (fun _ v37 _=>(2-intOf v37).toNat)
 case atStart=>exact⟨0,_,rfl,by omega,rfl,hG7,hR,hb7⟩
 case round =>
  clear hG7 hR hb7 CV;obtain⟨j,s,rfl,hj1,rfl,hG,hR,hb⟩:=hrel;have d0:wr.cell? ⟨R,0,none⟩=some (.int .u64 (lo:Int)):=hR.cell 0 rfl;have d1:wr.cell? ⟨R,1,none⟩=some (.int .u64 (k:Int)):=hR.cell 1 rfl;have d2:wr.cell? ⟨R,2,none⟩=some (.int .u64 0):=hR.cell 2 rfl;have d3:wr.cell? ⟨R,3,none⟩=some (.int .u64 0):=hR.cell 3 rfl
  by_cases hlt:(j:Int)<2
  ·have F:=Hh (wide_float (x:=[lo,k,0,0]) rfl wr);have HLT:=Hh hlt;go_wp2_with fail
   refine F.out.mono ?_
   rintro e w8 ⟨⟨fl,rfl⟩,hb8⟩
   have hG8:=hG.below hb8;have hR8:=hR.below hb8;have hbb:=hb.trans (hb8.mono hb.size);clear F d0 d1 d2 d3 hG hR hb hb8;go_wp2_with (with_reducible refine stop_fop ?_)
   refine wpList_fop rfl _ _ _ _ _ rfl (by simp) _ _ rfl rfl fun s2 w9 hw9=>?_
   have hG9:=hG8.or hw9;have hR9:=hR8.or hw9;have hb9:=below_or hbb hw9;clear hG8 hR8 hbb hw9;go_wp2_with fail
   go_roundw
   case rel=>exact⟨j+1,s2,by go_num,by have:=HLT.out;omega,rfl,hG9,hR9,hb9⟩
   case measure=>have:=HLT.out;simp[intOf];omega
  ·have hK1:num [lo,k,0,0] ^ 3<18446744073709551616 ^ 4:=by
    refine pow_small (.inr rfl) ?_
    have h1:=HM.out.2;have h2:=HP.out.2.2.2.2.2;have e:num [lo,k,0,0]=lo+18446744073709551616*(k+18446744073709551616*(0+18446744073709551616*(0+18446744073709551616*0))):=rfl
    omega
   have PW:=Hh (sha_power (x:=[lo,k,0,0]) rfl (by have h1:=HM.out.2;have h2:=HP.out.2.2.2.2.2;intro a ha;simp at ha;omega) 3 (by omega) hK1 wr);clear hK1;go_wp2_with fail
   refine PW.out.mono ?_
   rintro e w10 ⟨z,rfl,hz4,hzw,hzn,hb10⟩
   obtain⟨z0,z1,z2,z3,rfl⟩:=list4n hz4;rw[show rowN [z0,z1,z2,z3]=#[.int .u64 (z0:Int),.int .u64 (z1:Int),.int .u64 (z2:Int),.int .u64 (z3:Int)] from rfl];obtain⟨w11,hw11⟩:∃ w11,w10.alloc (.cells #[.int .u64 (z0:Int),.int .u64 (z1:Int),.int .u64 (z2:Int),.int .u64 (z3:Int)] 176)=w11:=⟨_,rfl⟩
   have hG10:Blk w11 w.heap.size 176 (rowN [0,0,0,p]):=by rw[← hw11];exact(hG.below hb10).alloc _
   have hR10:Blk w11 R 176 (rowN [lo,k,0,0]):=by rw[← hw11];exact(hR.below hb10).alloc _
   have hbb:Below w.heap.size w w11:=by rw[← hw11];exact(hb.trans (hb10.mono hb.size)).alloc (Nat.le_trans hb.size hb10.size) _
   obtain⟨Z,hZe⟩:∃ Z,w10.heap.size=Z:=⟨_,rfl⟩
   have hZ10:Blk w11 Z 176 (rowN [z0,z1,z2,z3]):=by rw[← hw11,← hZe];exact Blk.new w10 176 _
   have HW11:=Hh (And.intro hw11 hZe);have HZ:=Hh (And.intro hzw hzn);have LS:=Hh (sha_less (x:=[0,0,0,p]) (y:=[z0,z1,z2,z3]) rfl rfl (by have h2:=HP.out.2.1;intro a ha;simp at ha;omega) hzw w11);obtain⟨bl,hbl⟩:∃ b,decide (num [0,0,0,p]<num [z0,z1,z2,z3])=b:=⟨_,rfl⟩
   rw[hbl]at LS;have HBL:=Hh hbl;clear hz4 hzw hzn PW hb10 hG hR hb d0 d1 d2 d3 hbl hw11 hZe;have g0:w11.cell? ⟨w.heap.size,0,none⟩=some (.int .u64 0):=hG10.cell 0 rfl;have g1:w11.cell? ⟨w.heap.size,1,none⟩=some (.int .u64 0):=hG10.cell 1 rfl;have g2:w11.cell? ⟨w.heap.size,2,none⟩=some (.int .u64 0):=hG10.cell 2 rfl;have g3:w11.cell? ⟨w.heap.size,3,none⟩=some (.int .u64 (p:Int)):=hG10.cell 3 rfl;have y0:w11.cell? ⟨Z,0,none⟩=some (.int .u64 (z0:Int)):=hZ10.cell 0 rfl;have y1:w11.cell? ⟨Z,1,none⟩=some (.int .u64 (z1:Int)):=hZ10.cell 1 rfl;have y2:w11.cell? ⟨Z,2,none⟩=some (.int .u64 (z2:Int)):=hZ10.cell 2 rfl;have y3:w11.cell? ⟨Z,3,none⟩=some (.int .u64 (z3:Int)):=hZ10.cell 3 rfl;go_upto_region 14 with fail
   rw[HW11.out.1,HW11.out.2];go_wp2_with fail
   refine LS.out.mono ?_
   rintro e w12 ⟨rfl,hb12⟩
   have hG12:=hG10.below hb12;have hR12:=hR10.below hb12;have hZ12:=hZ10.below hb12;replace hb12:=hbb.trans (hb12.mono hbb.size);clear g0 g1 g2 g3 y0 y1 y2 y3 hG10 hR10 hZ10 LS hbb;go_upto_if 49 with fail
   go_cut [] (fun wx=>∃ (a b:Nat),a<18446744073709551616∧b≤22∧Blk wx w.heap.size 176 (rowN [0,0,0,p])∧Blk wx R 176 (rowN [a,b,0,0])∧Below w.heap.size w wx)
   case first =>
    cases bl with
    | true =>
     replace hG12:=hG12.drew;replace hR12:=hR12.drew;replace hZ12:=hZ12.drew;replace hb12:=hb12.drew;go_upto_region 15 with fail
     refine wp_region_ways 9 (fun wx=>wx.cell? ⟨R,0,none⟩=some (.int .u64 (lo:Int))∧wx.cell? ⟨R,1,none⟩=some (.int .u64 (k:Int))∧wx.cell? ⟨R,2,none⟩=some (.int .u64 0)∧wx.cell? ⟨R,3,none⟩=some (.int .u64 0)∧wx.cell? ⟨Z,0,none⟩=some (.int .u64 (z0:Int))∧wx.cell? ⟨Z,1,none⟩=some (.int .u64 (z1:Int))∧wx.cell? ⟨Z,2,none⟩=some (.int .u64 (z2:Int))∧wx.cell? ⟨Z,3,none⟩=some (.int .u64 (z3:Int))∧wx.cell? ⟨w.heap.size,0,none⟩=some (.int .u64 0)∧wx.cell? ⟨w.heap.size,1,none⟩=some (.int .u64 0)∧wx.cell? ⟨w.heap.size,2,none⟩=some (.int .u64 0)∧wx.cell? ⟨w.heap.size,3,none⟩=some (.int .u64 (p:Int))) (by kernel_rfl) (⟨hR12.cell 0 rfl,hR12.cell 1 rfl,hR12.cell 2 rfl,hR12.cell 3 rfl,hZ12.cell 0 rfl,hZ12.cell 1 rfl,hZ12.cell 2 rfl,hZ12.cell 3 rfl,hG12.cell 0 rfl,hG12.cell 1 rfl,hG12.cell 2 rfl,hG12.cell 3 rfl⟩) (fun hHeld=>?_)
     refine Tk 0 rfl hHeld ?_
     refine Tk 1 rfl hHeld ?_
     refine Tk 2 rfl hHeld ?_
     refine Tk 5 rfl hHeld ?_
     refine To 3 rfl fun K hK=>?_
     go_simp
     refine(sha_minus (x:=[z0,z1,z2,z3]) (y:=[0,0,0,p]) rfl rfl _).mono ?_
     rintro e w13 ⟨mm,rfl,hmm,hb13⟩
     replace hG12:=hG12.below hb13;replace hR12:=hR12.below hb13;replace hZ12:=hZ12.below hb13;replace hb12:=hb12.trans (hb13.mono hb12.size);clear hb13;clear hHeld
     refine hK.out _ _ (fun _=>?_) (fun hHeld=>?_)
     ·exact⟨hR12.cell 0 rfl,hR12.cell 1 rfl,hR12.cell 2 rfl,hR12.cell 3 rfl,hZ12.cell 0 rfl,hZ12.cell 1 rfl,hZ12.cell 2 rfl,hZ12.cell 3 rfl,hG12.cell 0 rfl,hG12.cell 1 rfl,hG12.cell 2 rfl,hG12.cell 3 rfl⟩
     clear hK K;replace hHeld:=hHeld (by decide)
     try simp only[Act.put,zz1,zz2,zz3,zz4,zz5,zz6]
     refine To 4 rfl fun K hK=>?_
     go_simp
     refine(wide_float hmm _).mono ?_
     rintro e w14 ⟨⟨fl,rfl⟩,hb14⟩
     replace hG12:=hG12.below hb14;replace hR12:=hR12.below hb14;replace hZ12:=hZ12.below hb14;replace hb12:=hb12.trans (hb14.mono hb12.size);clear hb14;clear hHeld
     refine hK.out _ _ (fun _=>?_) (fun hHeld=>?_)
     ·exact⟨hR12.cell 0 rfl,hR12.cell 1 rfl,hR12.cell 2 rfl,hR12.cell 3 rfl,hZ12.cell 0 rfl,hZ12.cell 1 rfl,hZ12.cell 2 rfl,hZ12.cell 3 rfl,hG12.cell 0 rfl,hG12.cell 1 rfl,hG12.cell 2 rfl,hG12.cell 3 rfl⟩
     clear hK K;replace hHeld:=hHeld (by decide)
     try simp only[Act.put,zz1,zz2,zz3,zz4,zz5,zz6]
     refine To 6 rfl fun K hK=>?_
     rw[if_pos (by rfl)]
     refine wp_fop _ _ _ _ _ rfl (by simp) _ _ rfl rfl fun fq w15 hw15=>?_
     replace hG12:=hG12.or hw15;replace hR12:=hR12.or hw15;replace hZ12:=hZ12.or hw15;replace hb12:=below_or hb12 hw15;clear hw15;clear hHeld
     refine hK.out _ _ (fun _=>?_) (fun hHeld=>?_)
     ·exact⟨hR12.cell 0 rfl,hR12.cell 1 rfl,hR12.cell 2 rfl,hR12.cell 3 rfl,hZ12.cell 0 rfl,hZ12.cell 1 rfl,hZ12.cell 2 rfl,hZ12.cell 3 rfl,hG12.cell 0 rfl,hG12.cell 1 rfl,hG12.cell 2 rfl,hG12.cell 3 rfl⟩
     clear hK K;replace hHeld:=hHeld (by decide)
     try simp only[Act.put,zz1,zz2,zz3,zz4,zz5,zz6]
     refine To 7 rfl fun K hK=>?_
     rw[if_pos (by rfl)]
     refine wp_fconv _ _ _ rfl (by kernel_rfl) (by kernel_rfl) _ rfl fun dd w16 hdd hw16=>?_
     replace hG12:=hG12.or hw16;replace hR12:=hR12.or hw16;replace hZ12:=hZ12.or hw16;replace hb12:=below_or hb12 hw16;clear hw16;clear hHeld
     refine hK.out _ _ (fun _=>?_) (fun hHeld=>?_)
     ·exact⟨hR12.cell 0 rfl,hR12.cell 1 rfl,hR12.cell 2 rfl,hR12.cell 3 rfl,hZ12.cell 0 rfl,hZ12.cell 1 rfl,hZ12.cell 2 rfl,hZ12.cell 3 rfl,hG12.cell 0 rfl,hG12.cell 1 rfl,hG12.cell 2 rfl,hG12.cell 3 rfl⟩
     clear hK K;replace hHeld:=hHeld (by decide)
     try simp only[Act.put,zz1,zz2,zz3,zz4,zz5,zz6]
     refine To 8 rfl fun K hK=>?_
     go_simp
     refine(sha_lower lo k 0 0 dd (by have h2:=HP.out.2.2.2.2.2;omega) HP.out.2.2.2.2.1 _).mono ?_
     rintro e w17 ⟨rfl,hb17⟩
     replace hG12:=hG12.below hb17;replace hR12:=hR12.below hb17;replace hZ12:=hZ12.below hb17;replace hb12:=hb12.trans (hb17.mono hb12.size);clear hb17;have HA:Hid ((lo+18446744073709551616-dd)%18446744073709551616<18446744073709551616):=Nat.mod_lt _ (by decide);have HB:Hid (k-(if lo<dd then 1 else 0)≤22):=by rw[Hid];have h2:=HP.out.2.2.2.2.2;split <;> omega
     obtain⟨a0,ha0⟩:∃ n,(lo+18446744073709551616-dd)%18446744073709551616=n:=⟨_,rfl⟩
     obtain⟨b0,hq0⟩:∃ n,k-(if lo<dd then 1 else 0)=n:=⟨_,rfl⟩
     rw[ha0]at HA;rw[hq0]at HB;rw[ha0,hq0];clear ha0 hq0 hdd hlo;clear hHeld
     refine hK.out _ _ (fun _=>?_) (fun hHeld=>?_)
     ·exact⟨hR12.cell 0 rfl,hR12.cell 1 rfl,hR12.cell 2 rfl,hR12.cell 3 rfl,hZ12.cell 0 rfl,hZ12.cell 1 rfl,hZ12.cell 2 rfl,hZ12.cell 3 rfl,hG12.cell 0 rfl,hG12.cell 1 rfl,hG12.cell 2 rfl,hG12.cell 3 rfl⟩
     clear hK K;replace hHeld:=hHeld (by decide)
     try simp only[Act.put,zz1,zz2,zz3,zz4,zz5,zz6]
     refine To 9 rfl fun K hK=>?_
     rw[if_pos (by rfl)]
     refine wp_store_item _ _ _ rfl R (rowN [a0,b0,0,0]) rfl rfl _ _ hR12 size_w4 rfl (rowN_one _) fun w18 hR18 hg18=>?_
     refine Kz hK ?_
     clear hK K
     refine Wd ?_
     clear hHeld;have hG18:=hG12.grown hg18 (by intro hc;injection hc with hc;have:=HGR.out;omega);have hb18:=hb12.grown hg18 hb12.size (by rintro q ⟨⟩;have:=HGR.out;omega);clear hG12 hR12 hZ12 hb12 hg18;go_wp2_with fail
     go_meet
     exact⟨a0,b0,HA.out,HB.out,hG18,hR18,hb18⟩
    | false =>
     replace hG12:=hG12.drew;replace hR12:=hR12.drew;replace hZ12:=hZ12.drew;replace hb12:=hb12.drew;go_upto_region 16 with fail
     refine wp_region_ways 9 (fun wx=>wx.cell? ⟨R,0,none⟩=some (.int .u64 (lo:Int))∧wx.cell? ⟨R,1,none⟩=some (.int .u64 (k:Int))∧wx.cell? ⟨R,2,none⟩=some (.int .u64 0)∧wx.cell? ⟨R,3,none⟩=some (.int .u64 0)∧wx.cell? ⟨Z,0,none⟩=some (.int .u64 (z0:Int))∧wx.cell? ⟨Z,1,none⟩=some (.int .u64 (z1:Int))∧wx.cell? ⟨Z,2,none⟩=some (.int .u64 (z2:Int))∧wx.cell? ⟨Z,3,none⟩=some (.int .u64 (z3:Int))∧wx.cell? ⟨w.heap.size,0,none⟩=some (.int .u64 0)∧wx.cell? ⟨w.heap.size,1,none⟩=some (.int .u64 0)∧wx.cell? ⟨w.heap.size,2,none⟩=some (.int .u64 0)∧wx.cell? ⟨w.heap.size,3,none⟩=some (.int .u64 (p:Int))) (by kernel_rfl) (⟨hR12.cell 0 rfl,hR12.cell 1 rfl,hR12.cell 2 rfl,hR12.cell 3 rfl,hZ12.cell 0 rfl,hZ12.cell 1 rfl,hZ12.cell 2 rfl,hZ12.cell 3 rfl,hG12.cell 0 rfl,hG12.cell 1 rfl,hG12.cell 2 rfl,hG12.cell 3 rfl⟩) (fun hHeld=>?_)
     refine Tk 0 rfl hHeld ?_
     refine Tk 1 rfl hHeld ?_
     refine Tk 2 rfl hHeld ?_
     refine Tk 5 rfl hHeld ?_
     refine To 3 rfl fun K hK=>?_
     go_simp
     refine(sha_minus (x:=[0,0,0,p]) (y:=[z0,z1,z2,z3]) rfl rfl _).mono ?_
     rintro e w13 ⟨mm,rfl,hmm,hb13⟩
     replace hG12:=hG12.below hb13;replace hR12:=hR12.below hb13;replace hZ12:=hZ12.below hb13;replace hb12:=hb12.trans (hb13.mono hb12.size);clear hb13;clear hHeld
     refine hK.out _ _ (fun _=>?_) (fun hHeld=>?_)
     ·exact⟨hR12.cell 0 rfl,hR12.cell 1 rfl,hR12.cell 2 rfl,hR12.cell 3 rfl,hZ12.cell 0 rfl,hZ12.cell 1 rfl,hZ12.cell 2 rfl,hZ12.cell 3 rfl,hG12.cell 0 rfl,hG12.cell 1 rfl,hG12.cell 2 rfl,hG12.cell 3 rfl⟩
     clear hK K;replace hHeld:=hHeld (by decide)
     try simp only[Act.put,zz1,zz2,zz3,zz4,zz5,zz6]
     refine To 4 rfl fun K hK=>?_
     go_simp
     refine(wide_float hmm _).mono ?_
     rintro e w14 ⟨⟨fl,rfl⟩,hb14⟩
     replace hG12:=hG12.below hb14;replace hR12:=hR12.below hb14;replace hZ12:=hZ12.below hb14;replace hb12:=hb12.trans (hb14.mono hb12.size);clear hb14;clear hHeld
     refine hK.out _ _ (fun _=>?_) (fun hHeld=>?_)
     ·exact⟨hR12.cell 0 rfl,hR12.cell 1 rfl,hR12.cell 2 rfl,hR12.cell 3 rfl,hZ12.cell 0 rfl,hZ12.cell 1 rfl,hZ12.cell 2 rfl,hZ12.cell 3 rfl,hG12.cell 0 rfl,hG12.cell 1 rfl,hG12.cell 2 rfl,hG12.cell 3 rfl⟩
     clear hK K;replace hHeld:=hHeld (by decide)
     try simp only[Act.put,zz1,zz2,zz3,zz4,zz5,zz6]
     refine To 6 rfl fun K hK=>?_
     rw[if_pos (by rfl)]
     refine wp_fop _ _ _ _ _ rfl (by simp) _ _ rfl rfl fun fq w15 hw15=>?_
     replace hG12:=hG12.or hw15;replace hR12:=hR12.or hw15;replace hZ12:=hZ12.or hw15;replace hb12:=below_or hb12 hw15;clear hw15;clear hHeld
     refine hK.out _ _ (fun _=>?_) (fun hHeld=>?_)
     ·exact⟨hR12.cell 0 rfl,hR12.cell 1 rfl,hR12.cell 2 rfl,hR12.cell 3 rfl,hZ12.cell 0 rfl,hZ12.cell 1 rfl,hZ12.cell 2 rfl,hZ12.cell 3 rfl,hG12.cell 0 rfl,hG12.cell 1 rfl,hG12.cell 2 rfl,hG12.cell 3 rfl⟩
     clear hK K;replace hHeld:=hHeld (by decide)
     try simp only[Act.put,zz1,zz2,zz3,zz4,zz5,zz6]
     refine To 7 rfl fun K hK=>?_
     rw[if_pos (by rfl)]
     refine wp_fconv _ _ _ rfl (by kernel_rfl) (by kernel_rfl) _ rfl fun dd w16 hdd hw16=>?_
     replace hG12:=hG12.or hw16;replace hR12:=hR12.or hw16;replace hZ12:=hZ12.or hw16;replace hb12:=below_or hb12 hw16;clear hw16;clear hHeld
     refine hK.out _ _ (fun _=>?_) (fun hHeld=>?_)
     ·exact⟨hR12.cell 0 rfl,hR12.cell 1 rfl,hR12.cell 2 rfl,hR12.cell 3 rfl,hZ12.cell 0 rfl,hZ12.cell 1 rfl,hZ12.cell 2 rfl,hZ12.cell 3 rfl,hG12.cell 0 rfl,hG12.cell 1 rfl,hG12.cell 2 rfl,hG12.cell 3 rfl⟩
     clear hK K;replace hHeld:=hHeld (by decide)
     try simp only[Act.put,zz1,zz2,zz3,zz4,zz5,zz6]
     refine To 8 rfl fun K hK=>?_
     go_simp
     refine(sha_raise lo k 0 0 dd HM.out.2 hdd (by have h2:=HP.out.2.2.2.2.2;omega) _).mono ?_
     rintro e w17 ⟨rfl,hb17⟩
     replace hG12:=hG12.below hb17;replace hR12:=hR12.below hb17;replace hZ12:=hZ12.below hb17;replace hb12:=hb12.trans (hb17.mono hb12.size);clear hb17;have HA:Hid ((lo+dd)%18446744073709551616<18446744073709551616):=Nat.mod_lt _ (by decide);have HB:Hid (k+(lo+dd)/18446744073709551616≤22):=by rw[Hid];have h1:=HM.out.2;have h2:=HP.out.2.2.2.2.2;omega
     obtain⟨a0,ha0⟩:∃ n,(lo+dd)%18446744073709551616=n:=⟨_,rfl⟩
     obtain⟨b0,hq0⟩:∃ n,k+(lo+dd)/18446744073709551616=n:=⟨_,rfl⟩
     rw[ha0]at HA;rw[hq0]at HB;rw[ha0,hq0];clear ha0 hq0 hdd hlo;clear hHeld
     refine hK.out _ _ (fun _=>?_) (fun hHeld=>?_)
     ·exact⟨hR12.cell 0 rfl,hR12.cell 1 rfl,hR12.cell 2 rfl,hR12.cell 3 rfl,hZ12.cell 0 rfl,hZ12.cell 1 rfl,hZ12.cell 2 rfl,hZ12.cell 3 rfl,hG12.cell 0 rfl,hG12.cell 1 rfl,hG12.cell 2 rfl,hG12.cell 3 rfl⟩
     clear hK K;replace hHeld:=hHeld (by decide)
     try simp only[Act.put,zz1,zz2,zz3,zz4,zz5,zz6]
     refine To 9 rfl fun K hK=>?_
     rw[if_pos (by rfl)]
     refine wp_store_item _ _ _ rfl R (rowN [a0,b0,0,0]) rfl rfl _ _ hR12 size_w4 rfl (rowN_one _) fun w18 hR18 hg18=>?_
     refine Kz hK ?_
     clear hK K
     refine Wd ?_
     clear hHeld;have hG18:=hG12.grown hg18 (by intro hc;injection hc with hc;have:=HGR.out;omega);have hb18:=hb12.grown hg18 hb12.size (by rintro q ⟨⟩;have:=HGR.out;omega);clear hG12 hR12 hZ12 hb12 hg18;go_wp2_with fail
     go_meet
     exact⟨a0,b0,HA.out,HB.out,hG18,hR18,hb18⟩
   case rest =>
    clear hG12 hR12 hZ12 hb12 HBL HZ HM HW11;obtain⟨a,b,ha,hb2,hG,hR,hb⟩:=hcut;have HAB:=Hh (And.intro ha hb2);clear ha hb2;go_wp2_with fail
    go_loopw [72] (fun _ wr=>∃ (a b:Nat),Hid (a<18446744073709551616∧b≤22)∧Blk wr w.heap.size 176 (rowN [0,0,0,p])∧Blk wr R 176 (rowN [a,b,0,0])∧Below w.heap.size w wr) (fun _ wr=>numAt wr R)
    case atStart=>exact⟨a,b,HAB,hG,hR,hb⟩
    case round =>
     clear HAB hG hR hb;clear a b;obtain⟨a,b,HAB,hG,hR,hb⟩:=hrel;have HM0:=Hh (numAt_eq hR)
     have HA9:Hid (a<18446744073709551616∧b≤33∧num [a,b,0,0] ^ 3<18446744073709551616 ^ 4):=by
      refine⟨HAB.out.1,Nat.le_trans HAB.out.2 (by omega), ?_⟩
      rw[num4]
      refine pow_small (.inr rfl) ?_
      have h1:=HAB.out.1;have h2:=HAB.out.2
      omega
     replace hG:=hG.drew;replace hR:=hR.drew;replace hb:=hb.drew;go_upto_region 17 with fail
     refine wp_region_ways 4 (fun wx=>wx.cell? ⟨R,0,none⟩=some (.int .u64 (a:Int))∧wx.cell? ⟨R,1,none⟩=some (.int .u64 (b:Int))∧wx.cell? ⟨R,2,none⟩=some (.int .u64 0)∧wx.cell? ⟨R,3,none⟩=some (.int .u64 0)∧wx.cell? ⟨w.heap.size,0,none⟩=some (.int .u64 0)∧wx.cell? ⟨w.heap.size,1,none⟩=some (.int .u64 0)∧wx.cell? ⟨w.heap.size,2,none⟩=some (.int .u64 0)∧wx.cell? ⟨w.heap.size,3,none⟩=some (.int .u64 (p:Int))) (by kernel_rfl) (⟨hR.cell 0 rfl,hR.cell 1 rfl,hR.cell 2 rfl,hR.cell 3 rfl,hG.cell 0 rfl,hG.cell 1 rfl,hG.cell 2 rfl,hG.cell 3 rfl⟩) (fun hHeld=>?_)
     refine Tk 0 rfl hHeld ?_
     refine Tk 1 rfl hHeld ?_
     refine Tk 2 rfl hHeld ?_
     refine To 3 rfl fun K hK=>?_
     go_simp
     refine(sha_power (x:=[a,b,0,0]) rfl (w64_4 HA9.out.1 HA9.out.2.1) 3 (by omega) HA9.out.2.2 _).mono ?_
     rintro e w21 ⟨z,rfl,hz4,hzw,hzn,hb21⟩
     replace hG:=hG.below hb21;replace hR:=hR.below hb21;replace hb:=hb.trans (hb21.mono hb.size);clear hb21;rw[num4]at hzn;obtain⟨z0,z1,z2,z3,rfl⟩:=list4n hz4;have HZN:=Hh (And.intro hzw hzn);clear hz4 hzw hzn;clear hHeld
     refine hK.out _ _ (fun _=>?_) (fun hHeld=>?_)
     ·exact⟨hR.cell 0 rfl,hR.cell 1 rfl,hR.cell 2 rfl,hR.cell 3 rfl,hG.cell 0 rfl,hG.cell 1 rfl,hG.cell 2 rfl,hG.cell 3 rfl⟩
     clear hK K;replace hHeld:=hHeld (by decide)
     try simp only[Act.put,zz1,zz2,zz3,zz4,zz5,zz6]
     refine To 4 rfl fun K hK=>?_
     go_simp
     refine(sha_lessB (x:=[0,0,0,p]) (y:=[z0,z1,z2,z3]) rfl rfl (w64_goal3 HP.out.2.1) HZN.out.1 _).mono ?_
     rintro e w22 ⟨bl,rfl,HBL,hb22⟩
     replace hG:=hG.below hb22;replace hR:=hR.below hb22;replace hb:=hb.trans (hb22.mono hb.size);clear hb22
     refine Kz hK ?_
     clear hK K
     refine Wd ?_
     clear hHeld;have HCMP:Hid (bl=decide (p*18446744073709551616 ^ 3<(a+18446744073709551616*b) ^ 3)):=by rw[Hid,HBL.out,num_goal3,HZN.out.2]
     clear HBL HZN HA9
     cases bl with
     | true =>
      have HLO:Hid (18446744073709551616<a+18446744073709551616*b):=root_low HP.out.1 (of_decide_eq_true HCMP.out.symm);clear HCMP;have d0:=hR.cell 0 (v:=.int .u64 (a:Int)) rfl;have d1:=hR.cell 1 (v:=.int .u64 (b:Int)) rfl;have d2:=hR.cell 2 (v:=.int .u64 0) rfl;have d3:=hR.cell 3 (v:=.int .u64 0) rfl;have LO:=Hh (fun w=>sha_lower a b 0 0 1 (by have h1:=HAB.out.2;omega) (by have h1:=HLO.out;have h2:=HAB.out.1;omega) w);go_wp2_with fail
      refine(LO.out _).mono ?_
      rintro e w23 ⟨rfl,hb23⟩
      have HA2:Hid ((a+18446744073709551616-1)%18446744073709551616<18446744073709551616∧b-(if a<1 then 1 else 0)≤22∧(a+18446744073709551616-1)%18446744073709551616+18446744073709551616*(b-(if a<1 then 1 else 0))+1=a+18446744073709551616*b):=by
       have h1:=HLO.out;have h2:=HAB.out.1;have h3:=HAB.out.2;rw[Hid]
       split <;> omega
      obtain⟨a2,ha2⟩:∃ n,(a+18446744073709551616-1)%18446744073709551616=n:=⟨_,rfl⟩
      obtain⟨b2,hb2⟩:∃ n,b-(if a<1 then 1 else 0)=n:=⟨_,rfl⟩
      rw[ha2,hb2]at HA2;rw[ha2,hb2];clear ha2 hb2 LO HLO d0 d1 d2 d3;replace hG:=hG.below hb23;replace hR:=hR.below hb23;replace hb:=hb.trans (hb23.mono hb.size);clear hb23;go_wp2_with (with_reducible refine stop_store ?_)
      refine wpList_store_item rfl _ _ _ rfl rfl R (rowN [a2,b2,0,0]) rfl rfl _ _ hR size_w4 rfl (rowN_one _) fun w24 hR24 hg24=>?_
      have hG24:=hG.grown hg24 (by intro hc;injection hc with hc;have:=HGR.out;omega);have hb24:=hb.grown hg24 hb.size (by rintro q ⟨⟩;have:=HGR.out;omega);clear hG hR hb hg24;go_wp2_with fail
      go_roundw
      case rel=>exact⟨a2,b2,⟨HA2.out.1,HA2.out.2.1⟩,hG24,hR24,hb24⟩
      case measure=>rw[HM0.out,numAt_eq hR24];have h1:=HA2.out.2.2;omega
     | false =>
      have HLE:Hid ((a+18446744073709551616*b) ^ 3≤p*18446744073709551616 ^ 3):=Nat.le_of_not_lt (of_decide_eq_false HCMP.out.symm);have HAA:Hid (a<18446744073709551616):=HAB.out.1;clear HCMP HM0 HAB;go_wp2_with fail
      go_loopw [81] (fun _ wr=>∃ (a b:Nat),Hid (a<18446744073709551616)∧Hid ((a+18446744073709551616*b) ^ 3≤p*18446744073709551616 ^ 3)∧Blk wr w.heap.size 176 (rowN [0,0,0,p])∧Blk wr R 176 (rowN [a,b,0,0])∧Below w.heap.size w wr) (fun _ wr=>32*18446744073709551616-numAt wr R)
      case atStart=>exact⟨a,b,HAA,HLE,hG,hR,hb⟩
      case round =>
       clear HAA HLE hG hR hb;obtain⟨a,b,HAA,HLE,hG,hR,hb⟩:=hrel;have HM0:=Hh (numAt_eq hR);have HBD:Hid (a+18446744073709551616*b<32*18446744073709551616):=root_bnd (.inr rfl) HP.out.2.1 HLE.out
       have HE2:Hid (a<18446744073709551616∧b≤31∧(a+1)%18446744073709551616<18446744073709551616∧b+(a+1)/18446744073709551616≤32∧(a+1)%18446744073709551616+18446744073709551616*(b+(a+1)/18446744073709551616)=a+18446744073709551616*b+1):=by
        have h1:=HAA.out;have h2:=HBD.out;rw[Hid]
        omega
       obtain⟨a2,ha2⟩:∃ n,(a+1)%18446744073709551616=n:=⟨_,rfl⟩
       obtain⟨b2,hb2⟩:∃ n,b+(a+1)/18446744073709551616=n:=⟨_,rfl⟩
       have HN2:=Hh (And.intro ha2 hb2);rw[ha2,hb2]at HE2;clear ha2 hb2
       have HA9:Hid (a2<18446744073709551616∧b2≤33∧num [a2,b2,0,0] ^ 3<18446744073709551616 ^ 4):=by
        refine⟨HE2.out.2.2.1,Nat.le_trans HE2.out.2.2.2.1 (by omega), ?_⟩
        rw[num4]
        refine pow_small (.inr rfl) ?_
        have h1:=HE2.out.2.2.1;have h2:=HE2.out.2.2.2.1
        omega
       replace hG:=hG.drew;replace hR:=hR.drew;replace hb:=hb.drew;go_upto_region 19 with fail
       refine wp_region_ways 6 (fun wx=>wx.cell? ⟨R,0,none⟩=some (.int .u64 (a:Int))∧wx.cell? ⟨R,1,none⟩=some (.int .u64 (b:Int))∧wx.cell? ⟨R,2,none⟩=some (.int .u64 0)∧wx.cell? ⟨R,3,none⟩=some (.int .u64 0)∧wx.cell? ⟨w.heap.size,0,none⟩=some (.int .u64 0)∧wx.cell? ⟨w.heap.size,1,none⟩=some (.int .u64 0)∧wx.cell? ⟨w.heap.size,2,none⟩=some (.int .u64 0)∧wx.cell? ⟨w.heap.size,3,none⟩=some (.int .u64 (p:Int))) (by kernel_rfl) (⟨hR.cell 0 rfl,hR.cell 1 rfl,hR.cell 2 rfl,hR.cell 3 rfl,hG.cell 0 rfl,hG.cell 1 rfl,hG.cell 2 rfl,hG.cell 3 rfl⟩) (fun hHeld=>?_)
       refine Tk 0 rfl hHeld ?_
       refine Tk 1 rfl hHeld ?_
       refine Tk 3 rfl hHeld ?_
       refine To 2 rfl fun K hK=>?_
       go_simp
       refine(sha_raise a b 0 0 1 HE2.out.1 (by omega) (by have h1:=HE2.out.2.1;omega) _).mono ?_
       rintro e w20 ⟨rfl,hb20⟩
       replace hG:=hG.below hb20;replace hR:=hR.below hb20;replace hb:=hb.trans (hb20.mono hb.size);clear hb20;rw[HN2.out.1,HN2.out.2];clear hHeld
       refine hK.out _ _ (fun _=>?_) (fun hHeld=>?_)
       ·exact⟨hR.cell 0 rfl,hR.cell 1 rfl,hR.cell 2 rfl,hR.cell 3 rfl,hG.cell 0 rfl,hG.cell 1 rfl,hG.cell 2 rfl,hG.cell 3 rfl⟩
       clear hK K;replace hHeld:=hHeld (by decide)
       try simp only[Act.put,zz1,zz2,zz3,zz4,zz5,zz6]
       refine To 4 rfl fun K hK=>?_
       go_simp
       refine(sha_power (x:=[a2,b2,0,0]) rfl (w64_4 HA9.out.1 HA9.out.2.1) 3 (by omega) HA9.out.2.2 _).mono ?_
       rintro e w21 ⟨z,rfl,hz4,hzw,hzn,hb21⟩
       replace hG:=hG.below hb21;replace hR:=hR.below hb21;replace hb:=hb.trans (hb21.mono hb.size);clear hb21;rw[num4]at hzn;obtain⟨z0,z1,z2,z3,rfl⟩:=list4n hz4;have HZN:=Hh (And.intro hzw hzn);clear hz4 hzw hzn;clear hHeld
       refine hK.out _ _ (fun _=>?_) (fun hHeld=>?_)
       ·exact⟨hR.cell 0 rfl,hR.cell 1 rfl,hR.cell 2 rfl,hR.cell 3 rfl,hG.cell 0 rfl,hG.cell 1 rfl,hG.cell 2 rfl,hG.cell 3 rfl⟩
       clear hK K;replace hHeld:=hHeld (by decide)
       try simp only[Act.put,zz1,zz2,zz3,zz4,zz5,zz6]
       refine To 5 rfl fun K hK=>?_
       go_simp
       refine(sha_lessB (x:=[0,0,0,p]) (y:=[z0,z1,z2,z3]) rfl rfl (w64_goal3 HP.out.2.1) HZN.out.1 _).mono ?_
       rintro e w22 ⟨bl,rfl,HBL,hb22⟩
       replace hG:=hG.below hb22;replace hR:=hR.below hb22;replace hb:=hb.trans (hb22.mono hb.size);clear hb22;clear hHeld
       refine hK.out _ _ (fun _=>?_) (fun hHeld=>?_)
       ·exact⟨hR.cell 0 rfl,hR.cell 1 rfl,hR.cell 2 rfl,hR.cell 3 rfl,hG.cell 0 rfl,hG.cell 1 rfl,hG.cell 2 rfl,hG.cell 3 rfl⟩
       clear hK K;replace hHeld:=hHeld (by decide)
       try simp only[Act.put,zz1,zz2,zz3,zz4,zz5,zz6]
       refine To 6 rfl fun K hK=>?_
       go_simp
       refine Kz hK ?_
       clear hK K
       refine Wd ?_
       clear hHeld;have HCMP:Hid (bl=decide (p*18446744073709551616 ^ 3<(a+18446744073709551616*b+1) ^ 3)):=by rw[Hid,HBL.out,num_goal3,HZN.out.2,HE2.out.2.2.2.2]
       clear HBL HZN HA9;have d0:=hR.cell 0 (v:=.int .u64 (a:Int)) rfl;have d1:=hR.cell 1 (v:=.int .u64 (b:Int)) rfl;have d2:=hR.cell 2 (v:=.int .u64 0) rfl;have d3:=hR.cell 3 (v:=.int .u64 0) rfl
       cases bl with
       | true =>
        have HFR:Hid (a=c):=by
         have h1:=frac_of (.inr rfl) HP.out.2.2.1 HP.out.2.2.2.1 HLE.out (of_decide_eq_true HCMP.out.symm);have h2:=HAA.out;rw[Hid]
         omega
        rw[HFR.out]at d0;clear HCMP
        simp only[Bool.not_true]
        go_wp2_with fail
        go_ret
        exact⟨rfl,hb⟩
       | false =>
        have HLE2:Hid ((a2+18446744073709551616*b2) ^ 3≤p*18446744073709551616 ^ 3):=by
         have h1:=Nat.le_of_not_lt (of_decide_eq_false HCMP.out.symm);rw[← HE2.out.2.2.2.2]at h1
         exact h1
        clear HCMP;have RA:=Hh (fun w=>sha_raise a b 0 0 1 HE2.out.1 (by omega) (by have h1:=HE2.out.2.1;omega) w)
        simp only[Bool.not_false]
        go_wp2_with fail
        refine(RA.out _).mono ?_
        rintro e w23 ⟨rfl,hb23⟩
        rw[HN2.out.1,HN2.out.2];replace hG:=hG.below hb23;replace hR:=hR.below hb23;replace hb:=hb.trans (hb23.mono hb.size);clear hb23 RA d0 d1 d2 d3;go_wp2_with (with_reducible refine stop_store ?_)
        refine wpList_store_item rfl _ _ _ rfl rfl R (rowN [a2,b2,0,0]) rfl rfl _ _ hR size_w4 rfl (rowN_one _) fun w24 hR24 hg24=>?_
        have hG24:=hG.grown hg24 (by intro hc;injection hc with hc;have:=HGR.out;omega);have hb24:=hb.grown hg24 hb.size (by rintro q ⟨⟩;have:=HGR.out;omega);clear hG hR hb hg24;go_wp2_with fail
        go_roundw
        case rel=>exact⟨a2,b2,HE2.out.2.2.1,HLE2,hG24,hR24,hb24⟩
        case measure=>rw[HM0.out,numAt_eq hR24];have h1:=HE2.out.2.2.2.2;have h2:=HBD.out;omega
def constOK (n:Nat) (x:Nat×Nat):Bool:=primeOK x.1&&isFrac n x.1 x.2&&decide (x.2<18446744073709551616)
theorem consts_ok3:(primesN.zip constK).all (constOK 3)=true:=by kernel_rfl
theorem consts_ok2:(primesN.zip constH).all (constOK 2)=true:=by kernel_rfl
theorem constOK_spec {n p c:Nat}(h:constOK n (p,c)=true):primeOK p=true∧isFrac n p c=true∧c<18446744073709551616:=by
 unfold constOK at h
 simp only[Bool.and_eq_true,decide_eq_true_eq]at h
 exact⟨h.1.1,h.1.2,h.2⟩
theorem all_zip_at {f:Nat×Nat→Bool}{l m:List Nat}(h:(l.zip m).all f=true) (i:Nat) (hl:i<l.length) (hm:i<m.length):f (l[i],m[i])=true:=by
 rw[List.all_eq_true]at h;have hz:i<(l.zip m).length:=by rw[List.length_zip];omega
 have h1:=h _ (List.getElem_mem hz);rw[List.getElem_zip]at h1
 exact h1
theorem getN_eq {l:List Nat}{i:Nat}(h:i<l.length):getN l i=l[i]:=by simp[getN,h]
def P64:List Nat:=primesN.take 64
def K64:List Nat:=constK.take 64
theorem P64_len:P64.length=64:=rfl
theorem K64_len:K64.length=64:=rfl
theorem const3_at {i:Nat}(h:i<64):primeOK (getN P64 i)=true∧isFrac 3 (getN P64 i) (getN K64 i)=true∧getN K64 i<18446744073709551616:=by
 have h1:primesN.length=80:=rfl;have h2:constK.length=80:=rfl;have hP:getN P64 i=primesN[i]:=by rw[getN_eq (by rw[P64_len];exact h)];simp[P64]
 have hK:getN K64 i=constK[i]:=by rw[getN_eq (by rw[K64_len];exact h)];simp[K64]
 rw[hP,hK]
 exact constOK_spec (all_zip_at consts_ok3 i (by omega) (by omega))
theorem const2_at {i:Nat}(h:i<8):isFrac 2 (getN P64 i) (getN constH i)=true∧getN constH i<18446744073709551616:=by
 have h1:primesN.length=80:=rfl;have h2:constH.length=8:=rfl;have hP:getN P64 i=primesN[i]:=by rw[getN_eq (by rw[P64_len];omega)];simp[P64]
 rw[hP,getN_eq (by omega)]
 exact(constOK_spec (all_zip_at consts_ok2 i (by omega) (by omega))).2
def hsP:Nat→List Nat
 | 0=>List.replicate 8 0
 | k+1=>if k<8 then(hsP k).set k (getN constH k) else hsP k
theorem hsP_len:∀ k,(hsP k).length=8
 | 0=>rfl
 | k+1=>by
  rw[hsP]
  split
  ·rw[List.length_set,hsP_len k]
  ·exact hsP_len k
theorem hsP_lo {k:Nat}(h:k<8):hsP (k+1)=(hsP k).set k (getN constH k):=if_pos h
theorem hsP_hi {k:Nat}(h:¬ k<8):hsP (k+1)=hsP k:=if_neg h
theorem hsP_64:hsP 64=constH:=by kernel_rfl
theorem take_snocN {l:List Nat}{i:Nat}(h:i<l.length):l.take (i+1)=l.take i++[getN l i]:=by
 rw[List.take_succ_eq_append_getElem h,getN_eq h]
theorem list8n {α:Type}{l:List α}(h:l.length=8):∃ a b c d e f g i,l=[a,b,c,d,e,f,g,i]:=by
 match l,h with
 | [a,b,c,d,e,f,g,i],_=>exact⟨a,b,c,d,e,f,g,i,rfl⟩
theorem size_w8q:(Tryz.prog.info? 111).map (·.size)=some 8:=by kernel_rfl
theorem results_tmp_cell {fn:Func}{p u:Tmp}{ty:TypeId}(h:fn.results=#[.tmp u,.cell p ty]) (tmps:Array Value) (P:Program) (w:World) :
  (results fn tmps).run P w =
   ((asAddr (tmps.getD p undef)).run P w).andThen fun a w₁=>((loadVar ty a).run P w₁).andThen fun x w₂=>.ok (.tuple #[tmps.getD u undef,x]) w₂:=by
 simp only[results,h]
 simp[Sem.run_bind,Result.andThen]
theorem ret_tmp_row {fn:Func}{p u:Tmp}{ty:TypeId}{a:Act}{w:World}{R:Ending→World→Prop}{g:Nat}{t:TypeId}{cs:Array Value}{d:TypeDesc}(h:fn.results=#[.tmp u,.cell p ty]) (hp:a.tmps.getD p undef=.pointer (some ⟨g,0,none⟩)) (hg:Blk w g t cs)
  (hd:(match d with | .struct _ | .array _ _=>true | _=>false)=true) (hu:Tryz.prog.underlying ty=some d) (hi:(Tryz.prog.info? ty).map (·.size)=some cs.size)
  (hdf:a.defers=[]) (hR:R (.returned (.tuple #[a.tmps.getD u undef,.agg cs])) w):bodyPost Tryz.prog fn R .ret a w:=by
 refine bodyPost_ret (v:=.tuple #[a.tmps.getD u undef,.agg cs]) ?_ hdf hR
 rw[results_tmp_cell h,hp];have hd':=run_loadVar_row (P:=Tryz.prog) w g t ty cs (0,0) d hg hu (by cases d <;> first | exact hd | rfl | cases hd) hi
 simp[asAddr,hd',Result.andThen]
theorem sha_constants (H:Snap) (w:World):Calls Tryz.prog 83 #[.int .i64 64] w fun e w'=>∃ A c,e=.returned (.tuple #[.slice A 64 c,.agg (rowN constH)])∧OwnX lieU 22 w' w.heap.size (.slice A 64 c) H K64∧Below w.heap.size w w':=by
 have hB0:=Blk.new w 111 #[.int .u64 0,.int .u64 0,.int .u64 0,.int .u64 0,.int .u64 0,.int .u64 0,.int .u64 0,.int .u64 0];have hb0:=below_box w (.cells #[.int .u64 0,.int .u64 0,.int .u64 0,.int .u64 0,.int .u64 0,.int .u64 0,.int .u64 0,.int .u64 0] 111);have hO0:=(OwnX.nil lieU 22 w w.heap.size H).alloc (.cells #[.int .u64 0,.int .u64 0,.int .u64 0,.int .u64 0,.int .u64 0,.int .u64 0,.int .u64 0,.int .u64 0] 111)
 generalize hw1:w.alloc (.cells #[.int .u64 0,.int .u64 0,.int .u64 0,.int .u64 0,.int .u64 0,.int .u64 0,.int .u64 0,.int .u64 0] 111)=w1 at hB0 hb0 hO0
 have HW1:=Hh hw1;have PR:=Hh (sha_primes H w1);clear hw1;go_enter Tryz.func83,Tryz.ntmps83
 go_wp2_with fail
 rw[HW1.out]
 refine PR.out.mono ?_
 rintro e w2 ⟨PA,pc,rfl,hP,hb2⟩
 have hB2:=hB0.below hb2;have hO2:=hO0.below hb2;have hb3:=hb0.trans (hb2.mono hb0.size);have HPA:Hid (w1.heap.size≤w2.heap.size∧w.heap.size+1=w1.heap.size):=⟨hb2.size,by rw[← HW1.out,size_alloc]⟩
 have HPO:=Hh (fun q (hq:(Value.slice PA 64 pc).ownBlock=some q)=>hP.lt q hq);obtain⟨pg,rfl,hp⟩:=ownU_at hP (by decide);clear PR hb0 hb2 hB0 hO0 HW1;go_wp2_with fail
 go_loopw [2,9] (fun v2 v9 wr=>∃ (i:Nat),v9=.int .i64 (i:Int)∧Hid (i≤64)∧OwnX lieU 22 wr w.heap.size v2 H (K64.take i)∧(∀ g,v2.ownBlock=some g→g≠w.heap.size∧g≠pg)∧OwnX lieU 22 wr w1.heap.size (.slice (some ⟨pg,0,none⟩) 64 pc) H (primesN.take 64)∧Blk wr w.heap.size 111 (rowN (hsP i))∧Below w.heap.size w wr) (fun _ v9 _=>(64-intOf v9).toNat)
 case atStart=>exact⟨0,rfl,Nat.zero_le _,hO2,by simp[Value.ownBlock],hP,hB2,hb3⟩
 case round =>
  clear hO2 hP hB2 hb3 hp;obtain⟨i,rfl,HI,hO,hne,hP,hB,hb⟩:=hrel;obtain⟨A,c,rfl,hmc,hcm⟩:=hO.form;have hml:(K64.take i).length=i:=by rw[List.length_take,K64_len];have:=HI.out;omega
  rw[hml]at hO hne⊢;have HNE:=Hh hne;clear hmc hcm hml hne
  by_cases hlt:(i:Int)<64
  ·have hi:i<64:=by omega
   have cp:wr.cell? ⟨pg,i,none⟩=some (.int .u64 (getN P64 i:Int)):=by
    obtain⟨g',e',h'⟩:=ownU_at hP (by decide)
    cases e'
    have h:=h' i (by rw[show(primesN.take 64).length=64 from rfl];exact hi);rw[getN_eq (l:=P64) (by rw[P64_len];exact hi)]
    exact h
   have HC:=Hh (const3_at hi);have HC2:=Hh (fun h:i<8=>const2_at h);have HKS:=Hh (take_snocN (l:=K64) (i:=i) (by rw[K64_len];exact hi));obtain⟨p,hp⟩:∃ p,getN P64 i=p:=⟨_,rfl⟩
   obtain⟨kc,hkc⟩:∃ kc,getN K64 i=kc:=⟨_,rfl⟩
   rw[hp]at cp HC HC2;rw[hkc]at HC HKS;have FR:=Hh (fun w=>sha_fraction3 p kc HC.out.1 HC.out.2.2 HC.out.2.1 w);have HLT:=Hh hlt;clear hp hkc hi;go_wp2_with fail
   refine(FR.out _).mono ?_
   rintro e w4 ⟨rfl,hb4⟩
   have hO4:=(hO.below hb4).alloc (.cells #[.int .u64 (kc:Int)] 22);have hP4:=(hP.below hb4).alloc (.cells #[.int .u64 (kc:Int)] 22);have hB4:=(hB.below hb4).alloc (.cells #[.int .u64 (kc:Int)] 22);have hb5:=(hb.trans (hb4.mono hb.size)).alloc (Nat.le_trans hb.size hb4.size) (.cells #[.int .u64 (kc:Int)] 22);have hlw:∀ q,(Value.slice A i c).ownBlock=some q→w.heap.size≤q:=fun q hq=>(hO.lt q hq).1
   clear hO hP hB hb hb4 cp FR;go_wp2_with (at_builtin;refine stop_in ?_)
   refine OwnX.append rfl (.tmp 14) (.tmp 17) 100 rfl Tryz.underlying100 rfl (by omega) info_u64 rfl hO4 _ 1 _ [.int .u64 (kc:Int)] [kc] rfl rfl (RowC.one rfl) (Src.new _ _ _ _ rfl _ rfl) (by rw[List.length_take,K64_len];simp;omega) hb5.size fun v' w6 hO6 hg6 hat6=>?_
   have hb6:=below_of_grown hb5 hg6 hlw;have hP6:=hP4.kept hg6 (.inr (by intro hc;exact(HNE.out pg hc.symm).2 rfl));have hB6:=hB4.grown hg6 (by intro hc;exact(HNE.out _ hc).1 rfl);rw[← HKS.out]at hO6
   have HNE6:Hid (∀ q,v'.ownBlock=some q→q≠w.heap.size∧q≠pg):=by
    intro q hq
    rcases hat6 with h | ⟨q',h,hlo⟩
    ·exact HNE.out q (h.symm.trans hq)
    ·rw[hq]at h
     cases h
     have h1:=hB4.lt;have h2:=(hP4.lt pg rfl).2;constructor <;> omega
   clear hO4 hP4 hB4 hb5 hg6 hat6 hlw
   by_cases h8:(i:Int)<8
   ·have FR2:=Hh (fun w=>sha_fraction2 p (getN constH i) HC.out.1 (HC2.out (by omega)).2 (HC2.out (by omega)).1 w);have HS:=Hh (hsP_lo (k:=i) (by omega));have H8:=Hh h8;go_wp2_with fail
    refine(FR2.out _).mono ?_
    rintro e w7 ⟨rfl,hb7⟩
    have hO7:=hO6.below hb7;have hP7:=hP6.below hb7;have hB7:=hB6.below hb7;have hbx:=hb6.trans (hb7.mono hb6.size);clear hO6 hP6 hB6 hb6 hb7 FR2;go_wp2_with (with_reducible refine stop_store ?_)
    refine wpList_store_cell rfl _ _ _ rfl rfl w.heap.size i (.int .u64 (getN constH i:Int)) rfl rfl _ _ hB7 size_u64c (by rw[rowN_size,hsP_len];have:=H8.out;omega) rfl fun w8 hB8 hg8=>?_
    rw[rowN_set,← HS.out]at hB8;have hO8:=hO7.kept hg8 (.inr (by intro hc;exact(HNE6.out _ hc).1 rfl));have hP8:=hP7.kept hg8 (.inr (by intro hc;have hc:pg=w.heap.size:=Option.some.inj hc;have:=(hP7.lt pg rfl).1;have:=HPA.out;omega));have hb8:=hbx.grown hg8 hbx.size (by rintro q ⟨⟩;exact Nat.le_refl _);clear hO7 hP7 hB7 hbx hg8;go_wp2_with fail
    go_roundw
    case rel=>exact⟨i+1,by go_num,by have:=HLT.out;rw[Hid];omega,hO8,HNE6.out,hP8,hB8,hb8⟩
    case measure=>have:=HLT.out;simp[intOf];omega
   ·rw[← hsP_hi (k:=i) (by omega)]at hB6;go_wp2_with fail
    go_roundw
    case rel=>exact⟨i+1,by go_num,by have:=HLT.out;rw[Hid];omega,hO6,HNE6.out,hP6,hB6,hb6⟩
    case measure=>have:=HLT.out;simp[intOf];omega
  ·obtain rfl:i=64:=by have:=HI.out;omega
   rw[hsP_64]at hB;rw[show K64.take 64=K64 from rfl]at hO;rw[show((64:Nat):Int)=64 from rfl]at hlt⊢;obtain⟨b0,b1,b2,b3,b4,b5,b6,b7,hH8⟩:=list8n (show constH.length=8 from rfl);have HH8:=Hh hH8;rw[hH8]at hB;clear hH8;go_upto_region 8 with fail
   refine wp_region_waysZ 3 (fun wx=>wx.cell? ⟨w.heap.size,0,none⟩=some (.int .u64 (b0:Int))∧wx.cell? ⟨w.heap.size,1,none⟩=some (.int .u64 (b1:Int))∧wx.cell? ⟨w.heap.size,2,none⟩=some (.int .u64 (b2:Int))∧wx.cell? ⟨w.heap.size,3,none⟩=some (.int .u64 (b3:Int))∧wx.cell? ⟨w.heap.size,4,none⟩=some (.int .u64 (b4:Int))∧wx.cell? ⟨w.heap.size,5,none⟩=some (.int .u64 (b5:Int))∧wx.cell? ⟨w.heap.size,6,none⟩=some (.int .u64 (b6:Int))∧wx.cell? ⟨w.heap.size,7,none⟩=some (.int .u64 (b7:Int))) (by kernel_rfl) (⟨hB.drew.cell 0 rfl,hB.drew.cell 1 rfl,hB.drew.cell 2 rfl,hB.drew.cell 3 rfl,hB.drew.cell 4 rfl,hB.drew.cell 5 rfl,hB.drew.cell 6 rfl,hB.drew.cell 7 rfl⟩) (fun hHeld=>?_)
   refine Zk 0 rfl hHeld ?_
   refine Zk 1 rfl hHeld ?_
   refine Zk 2 rfl hHeld ?_
   refine Zo 3 rfl fun K hK=>?_
   rw[if_pos (by rfl)]
   refine wp_store_item _ _ _ rfl w.heap.size (rowN [b0,b1,b2,b3,b4,b5,b6,b7]) rfl rfl _ _ hB.drew size_w8q rfl (rowN_one _) fun w9 hB9 hg9=>?_
   refine Kz hK ?_
   clear hK K
   refine WaysZ.done (by kernel_rfl) ?_
   have hb9:=hb.drew.grown hg9 hb.size (by rintro q ⟨⟩;exact Nat.le_refl _);have hO9:=OwnX.kept (w:=wr.drew) (w':=w9) hO hg9 (.inr (by intro hc;exact(HNE.out _ hc).1 rfl));clear hHeld;go_wp2_with fail
   refine ret_tmp_row rfl rfl hB9 rfl rfl size_w8q rfl ?_
   exact⟨A,c,by rw[HH8.out];rfl,hO9,hb9⟩
theorem sha_Sum256 {A:Option Addr}{c:Nat}{l:List UInt8}{n:Nat}(hn:n=l.length) (hmax:l.length≤1099511627) (w:World) (hS:Src w A (l.map byteV)) :
  Calls Tryz.prog 53 #[.slice A n c] w fun e w'=>∃ r,e=.returned r∧Fresh w (shaP l) r w':=by
 have HN:=Hh (And.intro hn hmax);have CN:=Hh (sha_constants (fun _=>none) w);clear hn hmax;go_enter Tryz.func53,Tryz.ntmps53
 go_wp2_with fail
 refine CN.out.mono ?_
 rintro e w1 ⟨LA,lc,rfl,hL,hb1⟩
 have HS1:=Hh (hS.below hb1);have HB1:=Hh hb1;have HLT:=Hh hL;obtain⟨lg,rfl,hlg⟩:=ownU_at hL (by decide)
 have HLG:Hid (∀ i,i<64→w1.cell? ⟨lg,i,none⟩=some (.int .u64 (getN (constK.take 64) i:Int))):=fun i hi=>by
  rw[hlg i (by rw[K64_len];exact hi),getN_eq (l:=constK.take 64) (by rw[show(constK.take 64).length=64 from rfl];exact hi)];rfl
 have HLL:Hid (lg<w1.heap.size):=(hL.lt lg rfl).2;have hF:=Blk.new w1 111 (rowN [0,0,0,0,0,0,0,0]);have hb:=below_box w1 (.cells (rowN [0,0,0,0,0,0,0,0]) 111);obtain⟨F,hFe⟩:∃ F,w1.heap.size=F:=⟨_,rfl⟩
 have HFF:=Hh hFe;rw[hFe]at hF;clear hFe hL hlg hb1 hS CN;go_wp2_with (with_reducible refine stop_store ?_)
 unfold Stopped
 rw[HFF.out]
 refine wpList_store_item rfl _ _ _ rfl rfl F (rowN constH) rfl rfl _ _ hF size_w8q (by rfl) (rowN_one _) fun w2 hF2 hg2=>?_
 have hb2:=hb.grown hg2 hb.size (by rintro q ⟨⟩;have:=HFF.out;omega);have hK0:=Blk.new w2 115 (rowV (kP 0));have hF3:=hF2.alloc (.cells (rowV (kP 0)) 115);have hb3:=hb2.alloc hb2.size (.cells (rowV (kP 0)) 115);obtain⟨K0,hKe⟩:∃ K,w2.heap.size=K:=⟨_,rfl⟩
 have HKF:Hid (w1.heap.size≤K0∧F<K0):=⟨by rw[← hKe];exact hb2.size,by rw[← hKe];exact hF2.lt⟩
 have HKE:=Hh hKe;rw[hKe]at hK0;clear hKe hF hb hF2 hg2 hb2;go_wp2_with fail
 rw[HKE.out];go_loopw [17] (fun v17 wr=>∃ i:Nat,v17=.int .i64 (i:Int)∧i≤64∧Blk wr F 111 (rowN constH)∧Blk wr K0 115 (rowV (kP i))∧Below w1.heap.size w1 wr) (fun v17 _=>(64-intOf v17).toNat)
 case atStart=>exact⟨0,rfl,by omega,hF3,hK0,hb3⟩
 case round =>
  clear hF3 hK0 hb3;obtain⟨i,rfl,hi,hF,hK,hb⟩:=hrel
  by_cases hlt:(i:Int)<64
  ·have hi6:i<64:=by omega
   have cl:wr.cell? ⟨lg,i,none⟩=some (.int .u64 (getN (constK.take 64) i:Int)):=by rw[hb.cell HLL.out];exact HLG.out i hi6
   have HWD:=Hh (K64_word hi6);obtain⟨kw,hkw⟩:∃ kw,getN (constK.take 64) i=kw:=⟨_,rfl⟩
   rw[hkw]at cl HWD;clear hkw;go_wp2_with (with_reducible refine stop_store ?_)
   refine wpList_store_cell rfl _ _ _ rfl rfl K0 i (.int .u32 (upperP (kw:Int))) rfl (by rfl) _ _ hK size_u32 (by rw[rowV_size,kP_len];exact hi6) rfl fun w9 hK9 hg9=>?_
   rw[rowV_set,HWD.out,← show kP (i+1)=(kP i).set i (getW constK32 i) from rfl]at hK9;have hF9:=hF.grown hg9 (by intro hc;injection hc with hc;have:=HKF.out;omega);have hb9:=hb.grown hg9 hb.size (by rintro q ⟨⟩;exact HKF.out.1);clear hF hK hb hg9 cl;go_wp2_with fail
   go_roundw
   case rel=>exact⟨i+1,by go_num,by omega,hF9,hK9,hb9⟩
   case measure=>simp[intOf];omega
  ·obtain rfl:i=64:=by omega
   rw[kP_64]at hK;rw[show((64:Nat):Int)=64 from rfl]at hlt⊢;have hH0:=Blk.new wr 116 (rowV (hP8 0));have hF3:=hF.alloc (.cells (rowV (hP8 0)) 116);have hK3:=hK.alloc (.cells (rowV (hP8 0)) 116);have hb3:=hb.alloc hb.size (.cells (rowV (hP8 0)) 116);obtain⟨G,hGe⟩:∃ G,wr.heap.size=G:=⟨_,rfl⟩
   have HGE:=Hh hGe;have HGK:Hid (w1.heap.size≤G∧F<G∧K0<G):=⟨by rw[← hGe];exact hb.size,by rw[← hGe];exact hF.lt,by rw[← hGe];exact hK.lt⟩
   rw[hGe]at hH0;clear hGe hF hK hb;go_wp2_with fail
   rw[HGE.out];go_loopw [29] (fun v29 wx=>∃ i:Nat,v29=.int .i64 (i:Int)∧i≤8∧Blk wx F 111 (rowN constH)∧Blk wx K0 115 (rowV KK)∧Blk wx G 116 (rowV (hP8 i))∧Below w1.heap.size w1 wx) (fun v29 _=>(8-intOf v29).toNat)
   case atStart=>exact⟨0,rfl,by omega,hF3,hK3,hH0,hb3⟩
   case round =>
    clear hF3 hK3 hH0 hb3;obtain⟨i,rfl,hi,hF,hK,hH,hb⟩:=hrel
    by_cases hlt:(i:Int)<8
    ·have hi8:i<8:=by omega
     have cl:wr.cell? ⟨F,i,none⟩=some (.int .u64 (getN constH i:Int)):=hF.cell i (rowN_get constH i hi8);obtain⟨kw,hkw⟩:∃ kw,getN constH i=kw:=⟨_,rfl⟩
     rw[hkw]at cl;have HKW:=Hh hkw;clear hkw;go_wp2_with (with_reducible refine stop_store ?_)
     refine wpList_store_cell rfl _ _ _ rfl rfl G i (.int .u32 (upperP (kw:Int))) rfl (by rfl) _ _ hH size_u32 (by rw[rowV_size,hP8_len];exact hi8) rfl fun w9 hH9 hg9=>?_
     rw[rowV_set,← HKW.out,← show hP8 (i+1)=(hP8 i).set i (upperP ((getN constH i:Nat):Int)) from rfl]at hH9;have hF9:=hF.grown hg9 (by intro hc;injection hc with hc;have:=HGK.out;omega);have hK9:=hK.grown hg9 (by intro hc;injection hc with hc;have:=HGK.out;omega);have hb9:=hb.grown hg9 hb.size (by rintro q ⟨⟩;exact HGK.out.1);clear hF hK hH hb hg9 cl;go_wp2_with fail
     go_roundw
     case rel=>exact⟨i+1,by go_num,by omega,hF9,hK9,hH9,hb9⟩
     case measure=>simp[intOf];omega
    ·obtain rfl:i=8:=by omega
     rw[hP8_8,← S8.cells_eq]at hH;rw[show((8:Nat):Int)=8 from rfl]at hlt⊢;have PD:=Hh (sha_padded (c:=c) HN.out.1 HN.out.2 wr (HS1.out.below hb));go_wp2_with fail
     refine PD.out.mono ?_
     rintro e w5 ⟨r5,rfl,hf5⟩
     obtain⟨PA,pc,rfl,hpl,hpm,_⟩:=hf5.own.form;have hK5:=hK.below hf5.2;have hH5:=hH.below hf5.2;have hb5:=hb.trans (hf5.2.mono hb.size)
     have HPG:Hid (∀ q,PA.map (·.block)=some q→G<q):=fun q hq=>by
      have h1:=(hf5.own.lt q (by cases PA with | none=>cases hq | some p=>exact hq)).1;have h2:=hH.lt
      omega
     obtain⟨Hp,_,hHp,hHf,_,hBp⟩:=hf5.own.snap (H:=fun _=>none) (fun _ _ h=>by cases h) (fun _ _=>rfl)
     have HNO:Hid (∀ b o,Hp b=some o→G<b):=fun b o hb=>by
      rcases hHf b o hb with h | h
      ·cases h
      ·exact HPG.out b h
     have HPL:=Hh (padP_len l);obtain⟨m,hm⟩:∃ m,(padP l).length=m:=⟨_,rfl⟩
     have HM:=Hh hm;rw[hm];clear hF hK hH hb hf5 PD hHf hm hpl hpm;go_wp2_with fail
     go_loopw [9] (fun v9 wx=>∃ (k nn:Nat) (VA:Option Addr) (vc:Nat),v9=.slice VA nn vc∧Hid (64*k+nn=m)∧Hid (IsBytes Hp VA vc ((padP l).drop (64*k)))∧Holds wx Hp∧Blk wx K0 115 (rowV KK)∧Blk wx G 116 (foldP (padP l) k).cells∧Below w1.heap.size w1 wx) (fun v9 _=>lenS v9)
     case atStart=>exact⟨0,m,PA,pc,rfl,by rw[Hid];omega,by rw[Hid];simpa using hBp,hHp,hK5,hH5,hb5⟩
     case round =>
      clear hHp hBp hK5 hH5 hb5;obtain⟨k,nn,VA,vc,rfl,HNK,HBK,hHx,hK,hH,hb⟩:=hrel
      by_cases hlt:(0:Int)<(nn:Int)
      ·have hn64:Hid (64≤nn):=by have:=HPL.out;have:=HM.out;have:=HNK.out;rw[Hid];omega
       have hdl:((padP l).drop (64*k)).length=nn:=by rw[List.length_drop,HM.out];have:=HNK.out;omega
       obtain⟨b,off,rfl,_⟩:=HBK.out.at_ (by rw[hdl];omega);have hvc:=HBK.out.le;rw[hdl]at hvc;have hvm:=HBK.out.max;have HV:=Hh (And.intro hvc hvm);have HDL:=Hh hdl;have hB64:IsBytes Hp (some ⟨b,off,none⟩) vc (blkB (padP l) k):=HBK.out.take' 64;have hl64:(blkB (padP l) k).length=64:=blkB_len (by have:=HNK.out;have:=hn64.out;rw[HM.out];omega);have RD:=Hh (sha_round32 hB64 hl64 wr hHx hH hK KK_len);rw[blockP_KK,← foldP_succ]at RD;have h64v:(64:Int)≤(vc:Int):=by have:=hn64.out;omega
       have h64n:(64:Int)≤(nn:Int):=by have:=hn64.out;omega
       clear hdl hvc hvm hB64 hl64;go_wp2_with fail
       refine RD.out.mono ?_
       rintro e w6 ⟨⟨v6,rfl⟩,hH6,hg6⟩
       have hK6:=hK.grown hg6 (by intro hc;injection hc with hc;have:=HGK.out;omega);have hb6:=hb.grown hg6 hb.size (by rintro q ⟨⟩;exact HGK.out.1)
       have hHx6:Holds w6 Hp:=hHx.grown hg6 (by
        rintro q ⟨⟩
        cases hq:Hp G with
        | none=>rfl
        | some o=>have:=HNO.out _ _ hq;omega)
       have hB6:=Hh (HBK.out.drop' 64 (by rw[HDL.out];exact hn64.out));clear hK hH hb hHx hg6 RD;go_wp2_with fail
       go_roundw
       case rel =>
        refine⟨k+1,nn-64,_,vc-64,rfl,by have:=HNK.out;have:=hn64.out;rw[Hid];omega, ?_,hHx6,hK6,hH6,hb6⟩
        have h:=hB6.out;rw[List.drop_drop]at h;rw[Hid,show 64*(k+1)=64*k+64 by omega];rw[Option.map_some,addr_add]at h
        simpa using h
       case measure=>have:=hn64.out;simp only[lenS];omega
      ·obtain rfl:nn=0:=by omega
       have hkn:k=(padP l).length/64:=by have:=HNK.out;have:=HM.out;omega
       rw[hkn]at hH;have HSH:Hid ((foldP (padP l) ((padP l).length/64)).list.flatMap wordB=shaP l):=rfl;obtain⟨s,hs⟩:∃ s,foldP (padP l) ((padP l).length/64)=s:=⟨_,rfl⟩
       rw[hs]at hH HSH;rw[← outP_8]at HSH;obtain⟨a0,a1,a2,a3,a4,a5,a6,a7⟩:=s;have HOL:=Hh (fun i hi=>outP_len ⟨a0,a1,a2,a3,a4,a5,a6,a7⟩ i hi);have HOS:=Hh (fun i hi=>outP_succ ⟨a0,a1,a2,a3,a4,a5,a6,a7⟩ i hi);have hb9:=HB1.out.trans (hb.mono HB1.out.size);clear hs hkn HBK HNK hHx hK hb;have q0:=hH.cell 0 (v:=.int .u32 a0) rfl;have q1:=hH.cell 1 (v:=.int .u32 a1) rfl;have q2:=hH.cell 2 (v:=.int .u32 a2) rfl;have q3:=hH.cell 3 (v:=.int .u32 a3) rfl;have q4:=hH.cell 4 (v:=.int .u32 a4) rfl;have q5:=hH.cell 5 (v:=.int .u32 a5) rfl;have q6:=hH.cell 6 (v:=.int .u32 a6) rfl;have q7:=hH.cell 7 (v:=.int .u32 a7) rfl;clear hH;go_wp2_with fail
       go_loopw [10,51] (fun v10 v51 wx=>∃ (i mo co:Nat) (VO:Option Addr),v10=.slice VO mo co∧v51=.int .i64 (i:Int)∧i≤8∧Hid (mo=4*i)∧OwnB wx w.heap.size (.slice VO mo co) (outP ⟨a0,a1,a2,a3,a4,a5,a6,a7⟩ i)∧Below w.heap.size w wx) (fun _ v51 _=>(8-intOf v51).toNat)
       case atStart=>exact⟨0,0,0,none,rfl,rfl,by omega,rfl,OwnB.nil _ _,hb9⟩
       case round =>
        clear q0 q1 q2 q3 q4 q5 q6 q7 hb9;obtain⟨i,mo,co,VO,rfl,rfl,hi,HMO,hO,hb⟩:=hrel
        rcases(show i=0∨i=1∨i=2∨i=3∨i=4∨i=5∨i=6∨i=7∨i=8 by omega) with rfl | rfl | rfl | rfl | rfl | rfl | rfl | rfl | rfl
        ·have X0:=run_index8u wr #[.int .u32 a0,.int .u32 a1,.int .u32 a2,.int .u32 a3,.int .u32 a4,.int .u32 a5,.int .u32 a6,.int .u32 a7] 0 (.int .u32 a0) 0 rfl (by omega) rfl;go_wp2_with (at_builtin;refine stop_in ?_)
         unfold Stopped
         clear X0;have hO1:=hO.alloc (.cells #[.int .u8 (a0/16777216%256),.int .u8 (a0/65536%256),.int .u8 (a0/256%256),.int .u8 (a0%256)] 5);have hb1:=hb.alloc hb.size (.cells #[.int .u8 (a0/16777216%256),.int .u8 (a0/65536%256),.int .u8 (a0/256%256),.int .u8 (a0%256)] 5)
         refine wpList_app_bytes rfl (.tmp 54) (.tmp 66) rfl w.heap.size _ _ rfl hO1 _ 4 _ (wordB a0) rfl rfl (Src.new _ _ _ _ rfl _ (by rw[wordB_cells])) (by rw[HOL.out 0 (by omega),wordB_len];omega) hb1.size fun v' w5 hO5 hg5 hat5=>?_
         have hb5:=below_of_grown hb1 hg5 (fun q hq=>(hO.lt q hq).1);replace hO5:=(HOS.out 0 (by omega)) ▸ hO5;obtain⟨A5,c5,rfl,_⟩:=hO5.form;rw[HOL.out (0+1) (by omega)]at hO5⊢;clear hO hb hO1 hb1 hg5 hat5;go_wp2_with fail
         go_roundw
         case rel=>exact⟨1,_,c5,A5,rfl,by go_num,by omega,rfl,hO5,hb5⟩
         case measure=>simp[intOf]
        ·have X0:=run_index8u wr #[.int .u32 a0,.int .u32 a1,.int .u32 a2,.int .u32 a3,.int .u32 a4,.int .u32 a5,.int .u32 a6,.int .u32 a7] 1 (.int .u32 a1) 1 rfl (by omega) rfl;go_wp2_with (at_builtin;refine stop_in ?_)
         unfold Stopped
         clear X0;have hO1:=hO.alloc (.cells #[.int .u8 (a1/16777216%256),.int .u8 (a1/65536%256),.int .u8 (a1/256%256),.int .u8 (a1%256)] 5);have hb1:=hb.alloc hb.size (.cells #[.int .u8 (a1/16777216%256),.int .u8 (a1/65536%256),.int .u8 (a1/256%256),.int .u8 (a1%256)] 5)
         refine wpList_app_bytes rfl (.tmp 54) (.tmp 66) rfl w.heap.size _ _ rfl hO1 _ 4 _ (wordB a1) rfl rfl (Src.new _ _ _ _ rfl _ (by rw[wordB_cells])) (by rw[HOL.out 1 (by omega),wordB_len];omega) hb1.size fun v' w5 hO5 hg5 hat5=>?_
         have hb5:=below_of_grown hb1 hg5 (fun q hq=>(hO.lt q hq).1);replace hO5:=(HOS.out 1 (by omega)) ▸ hO5;obtain⟨A5,c5,rfl,_⟩:=hO5.form;rw[HOL.out (1+1) (by omega)]at hO5⊢;clear hO hb hO1 hb1 hg5 hat5;go_wp2_with fail
         go_roundw
         case rel=>exact⟨2,_,c5,A5,rfl,by go_num,by omega,rfl,hO5,hb5⟩
         case measure=>simp[intOf]
        ·have X0:=run_index8u wr #[.int .u32 a0,.int .u32 a1,.int .u32 a2,.int .u32 a3,.int .u32 a4,.int .u32 a5,.int .u32 a6,.int .u32 a7] 2 (.int .u32 a2) 2 rfl (by omega) rfl;go_wp2_with (at_builtin;refine stop_in ?_)
         unfold Stopped
         clear X0;have hO1:=hO.alloc (.cells #[.int .u8 (a2/16777216%256),.int .u8 (a2/65536%256),.int .u8 (a2/256%256),.int .u8 (a2%256)] 5);have hb1:=hb.alloc hb.size (.cells #[.int .u8 (a2/16777216%256),.int .u8 (a2/65536%256),.int .u8 (a2/256%256),.int .u8 (a2%256)] 5)
         refine wpList_app_bytes rfl (.tmp 54) (.tmp 66) rfl w.heap.size _ _ rfl hO1 _ 4 _ (wordB a2) rfl rfl (Src.new _ _ _ _ rfl _ (by rw[wordB_cells])) (by rw[HOL.out 2 (by omega),wordB_len];omega) hb1.size fun v' w5 hO5 hg5 hat5=>?_
         have hb5:=below_of_grown hb1 hg5 (fun q hq=>(hO.lt q hq).1);replace hO5:=(HOS.out 2 (by omega)) ▸ hO5;obtain⟨A5,c5,rfl,_⟩:=hO5.form;rw[HOL.out (2+1) (by omega)]at hO5⊢;clear hO hb hO1 hb1 hg5 hat5;go_wp2_with fail
         go_roundw
         case rel=>exact⟨3,_,c5,A5,rfl,by go_num,by omega,rfl,hO5,hb5⟩
         case measure=>simp[intOf]
        ·have X0:=run_index8u wr #[.int .u32 a0,.int .u32 a1,.int .u32 a2,.int .u32 a3,.int .u32 a4,.int .u32 a5,.int .u32 a6,.int .u32 a7] 3 (.int .u32 a3) 3 rfl (by omega) rfl;go_wp2_with (at_builtin;refine stop_in ?_)
         unfold Stopped
         clear X0;have hO1:=hO.alloc (.cells #[.int .u8 (a3/16777216%256),.int .u8 (a3/65536%256),.int .u8 (a3/256%256),.int .u8 (a3%256)] 5);have hb1:=hb.alloc hb.size (.cells #[.int .u8 (a3/16777216%256),.int .u8 (a3/65536%256),.int .u8 (a3/256%256),.int .u8 (a3%256)] 5)
         refine wpList_app_bytes rfl (.tmp 54) (.tmp 66) rfl w.heap.size _ _ rfl hO1 _ 4 _ (wordB a3) rfl rfl (Src.new _ _ _ _ rfl _ (by rw[wordB_cells])) (by rw[HOL.out 3 (by omega),wordB_len];omega) hb1.size fun v' w5 hO5 hg5 hat5=>?_
         have hb5:=below_of_grown hb1 hg5 (fun q hq=>(hO.lt q hq).1);replace hO5:=(HOS.out 3 (by omega)) ▸ hO5;obtain⟨A5,c5,rfl,_⟩:=hO5.form;rw[HOL.out (3+1) (by omega)]at hO5⊢;clear hO hb hO1 hb1 hg5 hat5;go_wp2_with fail
         go_roundw
         case rel=>exact⟨4,_,c5,A5,rfl,by go_num,by omega,rfl,hO5,hb5⟩
         case measure=>simp[intOf]
        ·have X0:=run_index8u wr #[.int .u32 a0,.int .u32 a1,.int .u32 a2,.int .u32 a3,.int .u32 a4,.int .u32 a5,.int .u32 a6,.int .u32 a7] 4 (.int .u32 a4) 4 rfl (by omega) rfl;go_wp2_with (at_builtin;refine stop_in ?_)
         unfold Stopped
         clear X0;have hO1:=hO.alloc (.cells #[.int .u8 (a4/16777216%256),.int .u8 (a4/65536%256),.int .u8 (a4/256%256),.int .u8 (a4%256)] 5);have hb1:=hb.alloc hb.size (.cells #[.int .u8 (a4/16777216%256),.int .u8 (a4/65536%256),.int .u8 (a4/256%256),.int .u8 (a4%256)] 5)
         refine wpList_app_bytes rfl (.tmp 54) (.tmp 66) rfl w.heap.size _ _ rfl hO1 _ 4 _ (wordB a4) rfl rfl (Src.new _ _ _ _ rfl _ (by rw[wordB_cells])) (by rw[HOL.out 4 (by omega),wordB_len];omega) hb1.size fun v' w5 hO5 hg5 hat5=>?_
         have hb5:=below_of_grown hb1 hg5 (fun q hq=>(hO.lt q hq).1);replace hO5:=(HOS.out 4 (by omega)) ▸ hO5;obtain⟨A5,c5,rfl,_⟩:=hO5.form;rw[HOL.out (4+1) (by omega)]at hO5⊢;clear hO hb hO1 hb1 hg5 hat5;go_wp2_with fail
         go_roundw
         case rel=>exact⟨5,_,c5,A5,rfl,by go_num,by omega,rfl,hO5,hb5⟩
         case measure=>simp[intOf]
        ·have X0:=run_index8u wr #[.int .u32 a0,.int .u32 a1,.int .u32 a2,.int .u32 a3,.int .u32 a4,.int .u32 a5,.int .u32 a6,.int .u32 a7] 5 (.int .u32 a5) 5 rfl (by omega) rfl;go_wp2_with (at_builtin;refine stop_in ?_)
         unfold Stopped
         clear X0;have hO1:=hO.alloc (.cells #[.int .u8 (a5/16777216%256),.int .u8 (a5/65536%256),.int .u8 (a5/256%256),.int .u8 (a5%256)] 5);have hb1:=hb.alloc hb.size (.cells #[.int .u8 (a5/16777216%256),.int .u8 (a5/65536%256),.int .u8 (a5/256%256),.int .u8 (a5%256)] 5)
         refine wpList_app_bytes rfl (.tmp 54) (.tmp 66) rfl w.heap.size _ _ rfl hO1 _ 4 _ (wordB a5) rfl rfl (Src.new _ _ _ _ rfl _ (by rw[wordB_cells])) (by rw[HOL.out 5 (by omega),wordB_len];omega) hb1.size fun v' w5 hO5 hg5 hat5=>?_
         have hb5:=below_of_grown hb1 hg5 (fun q hq=>(hO.lt q hq).1);replace hO5:=(HOS.out 5 (by omega)) ▸ hO5;obtain⟨A5,c5,rfl,_⟩:=hO5.form;rw[HOL.out (5+1) (by omega)]at hO5⊢;clear hO hb hO1 hb1 hg5 hat5;go_wp2_with fail
         go_roundw
         case rel=>exact⟨6,_,c5,A5,rfl,by go_num,by omega,rfl,hO5,hb5⟩
         case measure=>simp[intOf]
        ·have X0:=run_index8u wr #[.int .u32 a0,.int .u32 a1,.int .u32 a2,.int .u32 a3,.int .u32 a4,.int .u32 a5,.int .u32 a6,.int .u32 a7] 6 (.int .u32 a6) 6 rfl (by omega) rfl;go_wp2_with (at_builtin;refine stop_in ?_)
         unfold Stopped
         clear X0;have hO1:=hO.alloc (.cells #[.int .u8 (a6/16777216%256),.int .u8 (a6/65536%256),.int .u8 (a6/256%256),.int .u8 (a6%256)] 5);have hb1:=hb.alloc hb.size (.cells #[.int .u8 (a6/16777216%256),.int .u8 (a6/65536%256),.int .u8 (a6/256%256),.int .u8 (a6%256)] 5)
         refine wpList_app_bytes rfl (.tmp 54) (.tmp 66) rfl w.heap.size _ _ rfl hO1 _ 4 _ (wordB a6) rfl rfl (Src.new _ _ _ _ rfl _ (by rw[wordB_cells])) (by rw[HOL.out 6 (by omega),wordB_len];omega) hb1.size fun v' w5 hO5 hg5 hat5=>?_
         have hb5:=below_of_grown hb1 hg5 (fun q hq=>(hO.lt q hq).1);replace hO5:=(HOS.out 6 (by omega)) ▸ hO5;obtain⟨A5,c5,rfl,_⟩:=hO5.form;rw[HOL.out (6+1) (by omega)]at hO5⊢;clear hO hb hO1 hb1 hg5 hat5;go_wp2_with fail
         go_roundw
         case rel=>exact⟨7,_,c5,A5,rfl,by go_num,by omega,rfl,hO5,hb5⟩
         case measure=>simp[intOf]
        ·have X0:=run_index8u wr #[.int .u32 a0,.int .u32 a1,.int .u32 a2,.int .u32 a3,.int .u32 a4,.int .u32 a5,.int .u32 a6,.int .u32 a7] 7 (.int .u32 a7) 7 rfl (by omega) rfl;go_wp2_with (at_builtin;refine stop_in ?_)
         unfold Stopped
         clear X0;have hO1:=hO.alloc (.cells #[.int .u8 (a7/16777216%256),.int .u8 (a7/65536%256),.int .u8 (a7/256%256),.int .u8 (a7%256)] 5);have hb1:=hb.alloc hb.size (.cells #[.int .u8 (a7/16777216%256),.int .u8 (a7/65536%256),.int .u8 (a7/256%256),.int .u8 (a7%256)] 5)
         refine wpList_app_bytes rfl (.tmp 54) (.tmp 66) rfl w.heap.size _ _ rfl hO1 _ 4 _ (wordB a7) rfl rfl (Src.new _ _ _ _ rfl _ (by rw[wordB_cells])) (by rw[HOL.out 7 (by omega),wordB_len];omega) hb1.size fun v' w5 hO5 hg5 hat5=>?_
         have hb5:=below_of_grown hb1 hg5 (fun q hq=>(hO.lt q hq).1);replace hO5:=(HOS.out 7 (by omega)) ▸ hO5;obtain⟨A5,c5,rfl,_⟩:=hO5.form;rw[HOL.out (7+1) (by omega)]at hO5⊢;clear hO hb hO1 hb1 hg5 hat5;go_wp2_with fail
         go_roundw
         case rel=>exact⟨8,_,c5,A5,rfl,by go_num,by omega,rfl,hO5,hb5⟩
         case measure=>simp[intOf]
        ·rw[HSH.out]at hO;go_wp2_with fail
         go_ret
         exact⟨_,rfl,by have h:=hO.form;obtain⟨_,_,e,_⟩:=h;exact⟨hO,hb⟩⟩
def xorB (m:Int) (u:UInt8):UInt8:=UInt8.ofNat (bits .xor .u8 (u.toNat:Int) m%256).toNat
theorem xorB_val (m:Int) (u:UInt8):byteV (xorB m u)=.int .u8 (bits .xor .u8 (u.toNat:Int) m):=by
 obtain⟨v,hv⟩:∃ v,bits .xor .u8 (u.toNat:Int) m=IntKind.u8.wrap v:=⟨_,rfl⟩
 have h:(IntKind.u8.wrap v%256).toNat<256:=by omega
 rw[xorB,hv,byteV,UInt8.toNat_ofNat_of_lt' (by simpa using h)];congr 1
 rw[IntKind.wrap_u8]
 omega
def hkeyP (key:List UInt8):List UInt8:=if 64<key.length then shaP key else key
def fillP (k:List UInt8):List UInt8:=k++List.replicate (64-k.length) 0
def maskP (m:Int) (key:List UInt8):List UInt8:=(fillP (hkeyP key)).map (xorB m)
def hmacP (key b:List UInt8):List UInt8:=shaP (maskP 92 key++shaP (maskP 54 key++b))
theorem hkeyP_len (key:List UInt8):(hkeyP key).length≤64:=by
 unfold hkeyP
 split
 ·rw[shaP_len];omega
 ·omega
theorem fillP_len {k:List UInt8}(h:k.length≤64):(fillP k).length=64:=by
 rw[fillP,List.length_append,List.length_replicate]
 omega
theorem maskP_len (m:Int) (key:List UInt8):(maskP m key).length=64:=by
 rw[maskP,List.length_map,fillP_len (hkeyP_len key)]
theorem hmacP_len (key b:List UInt8):(hmacP key b).length=32:=shaP_len _
def partX (m:Int) (l:List UInt8) (i:Nat):List UInt8:=(l.take i).map (xorB m)++l.drop i
theorem partX_0 (m:Int) (l:List UInt8):partX m l 0=l:=by simp[partX]
theorem partX_all (m:Int) {l:List UInt8}{i:Nat}(h:l.length≤i):partX m l i=l.map (xorB m):=by
 rw[partX,List.take_of_length_le h,List.drop_eq_nil_of_le h,List.append_nil]
theorem partX_len (m:Int) (l:List UInt8) (i:Nat):(partX m l i).length=l.length:=by
 rw[partX,List.length_append,List.length_map,List.length_take,List.length_drop]
 omega
theorem partX_get (m:Int) {l:List UInt8}{i:Nat}(h:i<l.length):(partX m l i)[i]'(by rw[partX_len];exact h)=l[i]:=by
 have e:(l.take i).length=i:=by rw[List.length_take];omega
 simp only[partX]
 rw[List.getElem_append_right (by rw[List.length_map,e];exact Nat.le_refl _)]
 simp only[List.getElem_drop,List.length_map,List.length_take]
 congr 1
 omega
theorem partX_set (m:Int) {l:List UInt8}{i:Nat}(h:i<l.length):(partX m l i).set i (xorB m l[i])=partX m l (i+1):=by
 have e:(l.take i).length=i:=by rw[List.length_take];omega
 rw[partX,partX,List.set_append_right _ _ (by rw[List.length_map,e];exact Nat.le_refl _),List.length_map,e,Nat.sub_self,List.take_succ_eq_append_getElem h,List.map_append,List.append_assoc];congr 1
 rw[List.drop_eq_getElem_cons h];rfl
end Go.Proofs.YtgcjjhibdbafmaaGreatDoor
