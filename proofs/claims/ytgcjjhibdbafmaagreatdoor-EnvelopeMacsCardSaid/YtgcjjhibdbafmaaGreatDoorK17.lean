/- squeezed. SHA-256: the reference's constants -/
import Derived.Test.YtgcjjhibdbafmaaGreatDoorK16
import Derived.Great.BuildSlice
import Derived.Lib.Mul64
import Derived.Laws.Bits64
import Derived.Laws.Externs
set_option linter.unusedVariables false
set_option linter.unusedSimpArgs false
set_option maxRecDepth 100000
set_option maxHeartbeats 6400000
namespace Go.Proofs.YtgcjjhibdbafmaaGreatDoor
open Go.RowKit
def rowW (l:List Int):Array Value:=(l.map (Value.int .u64)).toArray
theorem rowW_size (l:List Int):(rowW l).size=l.length:=by simp[rowW]
theorem rowW_get (l:List Int) (i:Nat) (h:i<l.length):(rowW l)[i]? = some (.int .u64 (getW l i)):=by
 simp[rowW,getW,h]
theorem rowW_one (l:List Int):(rowW l).all (·.oneCell')=true:=by simp[rowW,Value.oneCell']
def constKI:List Int:=[4794697086780616226,8158064640168781261,13096744586834688815,16840607885511220156,4131703408338449720,6480981068601479193,10538285296894168987,12329834152419229976,15566598209576043074,1334009975649890238,2608012711638119052,6128411473006802146,8268148722764581231,9286055187155687089,11230858885718282805,13951009754708518548,16472876342353939154,17275323862435702243,1135362057144423861,2597628984639134821,3308224258029322869,5365058923640841347,6679025012923562964,8573033837759648693,10970295158949994411,12119686244451234320,12683024718118986047,13788192230050041572,14330467153632333762,15395433587784984357,489312712824947311,1452737877330783856,2861767655752347644,3322285676063803686,5560940570517711597,5996557281743188959,7280758554555802590,8532644243296465576,9350256976987008742,10552545826968843579,11727347734174303076,12113106623233404929,14000437183269869457,14369950271660146224,15101387698204529176,15463397548674623760,17586052441742319658,1182934255886127544,1847814050463011016,2177327727835720531,2830643537854262169,3796741975233480872,4115178125766777443,5681478168544905931,6601373596472566643,7507060721942968483,8399075790359081724,8693463985226723168,9568029438360202098,10144078919501101548,10430055236837252648,11840083180663258601,13761210420658862357,14299343276471374635,14566680578165727644,15097957966210449927,16922976911328602910,17689382322260857208,500013540394364858,748580250866718886,1242879168328830382,1977374033974150939,2944078676154940804,3659926193048069267,4368137639120453308,4836135668995329356,5532061633213252278,6448918945643986474,6902733635092675308,7801388544844847127]
def constHI:List Int:=[7640891576956012808,13503953896175478587,4354685564936845355,11912009170470909681,5840696475078001361,11170449401992604703,2270897969802886507,6620516959819538809]
theorem constKI_len:constKI.length=80:=rfl
theorem constHI_len:constHI.length=8:=rfl
def upperP (x:Int):Int:=IntKind.u32.wrap (x/4294967296)
def constK32:List Int:=constKI.map upperP
theorem constK32_get (k:Nat) (h:k<80):getW constK32 k=upperP (getW constKI k):=by
 have h1:k<constKI.length:=by rw[constKI_len];exact h
 unfold getW constK32
 rw[List.getD_eq_getElem?_getD,List.getD_eq_getElem?_getD,List.getElem?_map,List.getElem?_eq_getElem h1];rfl
theorem size_w80:(Tryz.prog.info? 152).map (·.size)=some 80:=by kernel_rfl
theorem stop_build {P:Program}{ops:Array Oper}{Q:Exit→Act→World→Prop}{rest:List Oper}{a:Act}{w:World}{dst:Option Tmp}{ty:TypeId}{ps:Array (Nat×Operand)}{T:TypeId}{pos:String}{af:Array Edge}{g:Option (Nat×Bool)}
  (h:Stopped (wpList P ops Q (⟨dst,.build ty ps,T,pos,af,g⟩::rest) a w)):wpList P ops Q (⟨dst,.build ty ps,T,pos,af,g⟩::rest) a w:=h
theorem ref_constants (w:World):Calls Tryz.prog 112 #[] w fun e w'=>e=.returned (.agg (rowW constKI))∧Below w.heap.size w w':=by
 have hB:=Blk.new w 152 (rowW (List.replicate 80 0));have hb:=below_box w (.cells (rowW (List.replicate 80 0)) 152);go_enter Tryz.func112,Tryz.ntmps112
 go_wp2_with (with_reducible refine stop_build ?_)
 refine wpList_buildTo rfl _ _ rfl _ rfl (rowW constKI) (by kernel_rfl) ?_
 go_wp2_with (with_reducible refine stop_store ?_)
 refine wpList_store_item rfl _ _ _ rfl rfl w.heap.size (rowW constKI) rfl rfl _ _ hB size_w80 (by simp[rowW_size,constKI_len]) (rowW_one _) fun w2 hB2 hg2=>?_
 go_wp2_with fail
 refine ret_row rfl rfl hB2 rfl rfl size_w80 rfl ?_
 exact⟨rfl,hb.grown hg2 hb.size (by rintro q ⟨⟩;exact Nat.le_refl _)⟩
theorem ref_block256 {H:Snap}{b off c:Nat}{bs:List UInt8}(hb:IsBytes H (some ⟨b,off,none⟩) c bs) (hl:bs.length=64) (h0:S8) (w:World) (hH:Holds w H) :
  Calls Tryz.prog 91 #[.agg h0.cells,.slice (some ⟨b,off,none⟩) 64 c] w fun e w'=>e=.returned (.agg (blockP constK32 h0 bs).cells)∧Below w.heap.size w w':=by
 have HB:=Hh hb;have HL:=Hh hl;have hB0:=Blk.new w 116 h0.cells;have hR0:=Blk.new (w.alloc (.cells h0.cells 116)) 116 (rowV (List.replicate 8 0));rw[size_alloc]at hR0;have hb0:=below_box w (.cells h0.cells 116);have hb1:=hb0.alloc hb0.size (.cells (rowV (List.replicate 8 0)) 116);replace hB0:=hB0.alloc (.cells (rowV (List.replicate 8 0)) 116);go_enter Tryz.func91,Tryz.ntmps91
 go_wp2_with fail
 refine(ref_constants _).mono ?_
 rintro e w2 ⟨rfl,hb2⟩
 have hC:=Blk.new w2 152 (rowW (List.replicate 80 0));have hB2:=(hB0.below hb2).alloc (.cells (rowW (List.replicate 80 0)) 152);have hR2:=(hR0.below hb2).alloc (.cells (rowW (List.replicate 80 0)) 152);have hbb:=(hb1.trans (hb2.mono hb1.size)).alloc (Nat.le_trans hb1.size hb2.size) (.cells (rowW (List.replicate 80 0)) 152);have hlR:=(hR0.below hb2).lt;obtain⟨kg,hkg⟩:∃ kg,w2.heap.size=kg:=⟨_,rfl⟩
 obtain⟨hg,hhg⟩:∃ hg,w.heap.size=hg:=⟨_,rfl⟩
 rw[hkg]at hC hlR;rw[hhg]at hB2 hR2 hlR;have HKG:=Hh (And.intro hkg hhg);clear hb2 hb0 hb1 hB0 hR0 hb hl;have hbs:=hbb.size;have hC':=hC;clear hkg hhg;go_wp2_with (with_reducible refine stop_store ?_)
 unfold Stopped
 rw[HKG.out.1,HKG.out.2]
 refine wpList_store_item rfl _ _ _ rfl rfl kg (rowW constKI) rfl rfl _ _ hC size_w80 (by simp[rowW_size,constKI_len]) (rowW_one _) fun wq hKb hgq=>?_
 have hh:=hB2.grown hgq (by intro hc;injection hc;omega);have hR:=hR2.grown hgq (by intro hc;injection hc;omega);have hbq:Below w.heap.size w wq:=hbb.grown hgq hbb.size (by rintro q ⟨⟩;have:=HKG.out;omega);have HH:=Hh (hH.below hbq (Nat.le_refl _));have HN:=Hh (Blk.new wq 115 (rowV (schedP bs 0)));have HBQ:=Hh hbq;have H64:=Hh (show 64≤constKI.length by rw[constKI_len];omega);clear hC hC' hgq hB2 hR2 hbb hH hbs hbq hlR;go_wp2_with fail
 go_loopw [18] (fun v18 wr=>∃ k:Nat,v18=.int .i64 (k:Int)∧k≤64∧Blk wr wq.heap.size 115 (rowV (schedP bs k))∧Below wq.heap.size wq wr) (fun v18 _=>(64-intOf v18).toNat)
 case atStart=>exact⟨0,rfl,by omega,HN.out,below_box _ _⟩
 case round =>
  obtain⟨k,rfl,hk64,hW,hbw⟩:=hrel
  by_cases hlt:(k:Int)<64
  ·by_cases h16:(k:Int)<16
   ·obtain⟨j0,hj0⟩:∃ j,4*k=j:=⟨_,rfl⟩
    obtain⟨j1,hj1⟩:∃ j,4*k+1=j:=⟨_,rfl⟩
    obtain⟨j2,hj2⟩:∃ j,4*k+2=j:=⟨_,rfl⟩
    obtain⟨j3,hj3⟩:∃ j,4*k+3=j:=⟨_,rfl⟩
    have W0:IntKind.i64.wrap (4*(k:Int))=(j0:Int):=by rw[← hj0];exact IntWalk.i64_in _ (by omega)
    have W1:IntKind.i64.wrap ((j0:Int)+1)=(j1:Int):=by rw[← hj1,← hj0];exact IntWalk.i64_in _ (by omega)
    have W2:IntKind.i64.wrap ((j0:Int)+2)=(j2:Int):=by rw[← hj2,← hj0];exact IntWalk.i64_in _ (by omega)
    have W3:IntKind.i64.wrap ((j0:Int)+3)=(j3:Int):=by rw[← hj3,← hj0];exact IntWalk.i64_in _ (by omega)
    have l0:(j0:Int)<64:=by omega
    have l1:(j1:Int)<64:=by omega
    have l2:(j2:Int)<64:=by omega
    have l3:(j3:Int)<64:=by omega
    have b0:=byteI_cell HB.out j0 (by have:=HL.out;omega);have b1:=byteI_cell HB.out j1 (by have:=HL.out;omega);have b2:=byteI_cell HB.out j2 (by have:=HL.out;omega);have b3:=byteI_cell HB.out j3 (by have:=HL.out;omega);have HJ:=Hh (And.intro hj0 (And.intro hj1 (And.intro hj2 hj3)));clear hj0 hj1 hj2 hj3;have HHr:=Hh (HH.out.below hbw (Nat.le_refl _));have hWd:=hW.drew;go_upto_region 7 with fail
    refine wp_region_ways 35 (fun wx=>wx.cell? ⟨b,off+j0,none⟩=some (.int .u8 (byteI bs j0))∧wx.cell? ⟨b,off+j1,none⟩=some (.int .u8 (byteI bs j1))∧wx.cell? ⟨b,off+j2,none⟩=some (.int .u8 (byteI bs j2))∧wx.cell? ⟨b,off+j3,none⟩=some (.int .u8 (byteI bs j3))) (by kernel_rfl) (⟨HHr.out.drew.cell b0,HHr.out.drew.cell b1,HHr.out.drew.cell b2,HHr.out.drew.cell b3⟩) (fun hHeld=>?_)
    refine Tk 0 rfl hHeld ?_
    refine Tk 1 rfl hHeld ?_
    refine Tk 2 rfl hHeld ?_
    refine Tk 3 rfl hHeld ?_
    refine Tk 4 rfl hHeld ?_
    refine Tk 5 rfl hHeld ?_
    refine Tk 6 rfl hHeld ?_
    refine Tk 7 rfl hHeld ?_
    refine Tk 8 rfl hHeld ?_
    refine Tk 9 rfl hHeld ?_
    refine Tk 10 rfl hHeld ?_
    refine Tk 11 rfl hHeld ?_
    refine Tk 12 rfl hHeld ?_
    refine Tk 13 rfl hHeld ?_
    refine Tk 14 rfl hHeld ?_
    refine Tk 15 rfl hHeld ?_
    refine Tk 16 rfl hHeld ?_
    refine Tk 17 rfl hHeld ?_
    refine Tk 18 rfl hHeld ?_
    refine Tk 19 rfl hHeld ?_
    refine Tk 20 rfl hHeld ?_
    refine Tk 21 rfl hHeld ?_
    refine Tk 22 rfl hHeld ?_
    refine Tk 23 rfl hHeld ?_
    refine Tk 24 rfl hHeld ?_
    refine Tk 25 rfl hHeld ?_
    refine Tk 26 rfl hHeld ?_
    refine Tk 27 rfl hHeld ?_
    refine Tk 28 rfl hHeld ?_
    refine Tk 29 rfl hHeld ?_
    refine Tk 30 rfl hHeld ?_
    refine Tk 31 rfl hHeld ?_
    refine Tk 32 rfl hHeld ?_
    refine Tk 33 rfl hHeld ?_
    refine Tk 34 rfl hHeld ?_
    refine To 35 rfl fun K hK=>?_
    rw[if_pos (by rfl)]
    refine wp_store_cell _ _ _ rfl wq.heap.size k (.int .u32 (wordP (byteI bs j0) (byteI bs j1) (byteI bs j2) (byteI bs j3))) rfl rfl _ _ hWd size_u32 (by rw[rowV_size,schedP_len];omega) rfl fun w9 hW9 hg9=>?_
    refine Kz hK ?_
    clear hK K
    refine Wd ?_
    clear hHeld;have hbn:Below wq.heap.size wq w9:=hbw.drew.grown hg9 hbw.size (by rintro q ⟨⟩;exact Nat.le_refl _)
    have hWn:Blk w9 wq.heap.size 115 (rowV (schedP bs (k+1))):=by
     obtain⟨rfl,rfl,rfl,rfl⟩:=HJ.out;rw[schedP_lo _ _ (by omega)]at hW9
     exact hW9
    clear hW9 hg9 hWd;go_wp2_with fail
    go_roundw
    case rel=>exact⟨k+1,by go_num,by omega,hWn,hbn⟩
    case measure=>simp[intOf];omega
   ·have hk16:16≤k:=by omega
    obtain⟨a15,ha15⟩:∃ j,k-15=j:=⟨_,rfl⟩
    obtain⟨a2,ha2⟩:∃ j,k-2=j:=⟨_,rfl⟩
    obtain⟨a7,ha7⟩:∃ j,k-7=j:=⟨_,rfl⟩
    obtain⟨a16,ha16⟩:∃ j,k-16=j:=⟨_,rfl⟩
    have W15:IntKind.i64.wrap ((k:Int)-15)=(a15:Int):=by rw[← ha15,show((k-15:Nat):Int)=(k:Int)-15 by omega];exact IntWalk.i64_in _ (by omega)
    have W2:IntKind.i64.wrap ((k:Int)-2)=(a2:Int):=by rw[← ha2,show((k-2:Nat):Int)=(k:Int)-2 by omega];exact IntWalk.i64_in _ (by omega)
    have W7:IntKind.i64.wrap ((k:Int)-7)=(a7:Int):=by rw[← ha7,show((k-7:Nat):Int)=(k:Int)-7 by omega];exact IntWalk.i64_in _ (by omega)
    have W16:IntKind.i64.wrap ((k:Int)-16)=(a16:Int):=by rw[← ha16,show((k-16:Nat):Int)=(k:Int)-16 by omega];exact IntWalk.i64_in _ (by omega)
    have l15:(a15:Int)<64:=by omega
    have l2:(a2:Int)<64:=by omega
    have l7:(a7:Int)<64:=by omega
    have l16:(a16:Int)<64:=by omega
    have hWd:=hW.drew;have b15:=hWd.cell a15 (rowV_get _ _ (by rw[schedP_len];omega));have b2:=hWd.cell a2 (rowV_get _ _ (by rw[schedP_len];omega));have b7:=hWd.cell a7 (rowV_get _ _ (by rw[schedP_len];omega));have b16:=hWd.cell a16 (rowV_get _ _ (by rw[schedP_len];omega));have HJ:=Hh (And.intro ha15 (And.intro ha2 (And.intro ha7 ha16)));obtain⟨x15,hx15⟩:∃ x,getW (schedP bs k) a15=x:=⟨_,rfl⟩
    obtain⟨x2,hx2⟩:∃ x,getW (schedP bs k) a2=x:=⟨_,rfl⟩
    obtain⟨x7,hx7⟩:∃ x,getW (schedP bs k) a7=x:=⟨_,rfl⟩
    obtain⟨x16,hx16⟩:∃ x,getW (schedP bs k) a16=x:=⟨_,rfl⟩
    rw[hx15]at b15;rw[hx2]at b2;rw[hx7]at b7;rw[hx16]at b16;have HX:=Hh (And.intro hx15 (And.intro hx2 (And.intro hx7 hx16)));clear ha15 ha2 ha7 ha16 hx15 hx2 hx7 hx16;go_upto_region 8 with fail
    refine wp_region_ways 10 (fun wx=>wx.cell? ⟨wq.heap.size,a15,none⟩=some (.int .u32 x15)∧wx.cell? ⟨wq.heap.size,a2,none⟩=some (.int .u32 x2)) (by kernel_rfl) (⟨b15,b2⟩) (fun hHeld=>?_)
    refine TkS 0 rfl hHeld ?_
    refine TkS 1 rfl hHeld ?_
    refine TkS 2 rfl hHeld ?_
    refine TkS 3 rfl hHeld ?_
    refine TkS 4 rfl hHeld ?_
    refine TkS 5 rfl hHeld ?_
    refine TkS 6 rfl hHeld ?_
    refine TkS 7 rfl hHeld ?_
    refine TkS 8 rfl hHeld ?_
    refine TkS 9 rfl hHeld ?_
    refine Wd ?_
    clear hHeld;go_upto_region 9 with fail
    refine wp_region_ways 29 (fun wx=>wx.cell? ⟨wq.heap.size,a7,none⟩=some (.int .u32 x7)∧wx.cell? ⟨wq.heap.size,a16,none⟩=some (.int .u32 x16)) (by kernel_rfl) (⟨b7,b16⟩) (fun hHeld=>?_)
    refine Tk 0 rfl hHeld ?_
    refine Tk 1 rfl hHeld ?_
    refine Tk 3 rfl hHeld ?_
    refine Tk 6 rfl hHeld ?_
    refine Tk 7 rfl hHeld ?_
    refine Tk 9 rfl hHeld ?_
    refine Tk 10 rfl hHeld ?_
    refine Tk 11 rfl hHeld ?_
    refine Tk 12 rfl hHeld ?_
    refine Tk 14 rfl hHeld ?_
    refine Tk 16 rfl hHeld ?_
    refine Tk 19 rfl hHeld ?_
    refine Tk 20 rfl hHeld ?_
    refine Tk 23 rfl hHeld ?_
    refine Tk 24 rfl hHeld ?_
    refine Tk 25 rfl hHeld ?_
    refine Tk 26 rfl hHeld ?_
    refine To 2 rfl fun K hK=>?_
    go_simp
    refine(ref_rot17 _ _).mono ?_
    rintro e w5 ⟨rfl,rfl⟩
    clear hHeld
    refine hK.out _ _ (fun _=>?_) (fun hHeld=>?_)
    ·exact⟨b7,b16⟩
    clear hK K;replace hHeld:=hHeld (by decide)
    try simp only[Act.put,zz1,zz2,zz3,zz4,zz5,zz6]
    refine To 4 rfl fun K hK=>?_
    go_simp
    refine(ref_rot19 _ _).mono ?_
    rintro e w5 ⟨rfl,rfl⟩
    clear hHeld
    refine hK.out _ _ (fun _=>?_) (fun hHeld=>?_)
    ·exact⟨b7,b16⟩
    clear hK K;replace hHeld:=hHeld (by decide)
    try simp only[Act.put,zz1,zz2,zz3,zz4,zz5,zz6]
    refine Tk 5 rfl hHeld ?_
    refine Tk 8 rfl hHeld ?_
    refine Tk 13 rfl hHeld ?_
    refine To 15 rfl fun K hK=>?_
    go_simp
    refine(ref_rot7 _ _).mono ?_
    rintro e w5 ⟨rfl,rfl⟩
    clear hHeld
    refine hK.out _ _ (fun _=>?_) (fun hHeld=>?_)
    ·exact⟨b7,b16⟩
    clear hK K;replace hHeld:=hHeld (by decide)
    try simp only[Act.put,zz1,zz2,zz3,zz4,zz5,zz6]
    refine To 17 rfl fun K hK=>?_
    go_simp
    refine(ref_rot18 _ _).mono ?_
    rintro e w5 ⟨rfl,rfl⟩
    clear hHeld
    refine hK.out _ _ (fun _=>?_) (fun hHeld=>?_)
    ·exact⟨b7,b16⟩
    clear hK K;replace hHeld:=hHeld (by decide)
    try simp only[Act.put,zz1,zz2,zz3,zz4,zz5,zz6]
    refine Tk 18 rfl hHeld ?_
    refine Tk 21 rfl hHeld ?_
    refine Tk 22 rfl hHeld ?_
    refine Tk 27 rfl hHeld ?_
    refine Tk 28 rfl hHeld ?_
    refine To 29 rfl fun K hK=>?_
    rw[if_pos (by rfl)]
    refine wp_store_cell _ _ _ rfl wq.heap.size k (.int .u32 (mixP x15 x2 x7 x16)) rfl rfl _ _ hWd size_u32 (by rw[rowV_size,schedP_len];omega) rfl fun w9 hW9 hg9=>?_
    refine Kz hK ?_
    clear hK K
    refine Wd ?_
    clear hHeld;have hbn:Below wq.heap.size wq w9:=hbw.drew.drew.grown hg9 hbw.size (by rintro q ⟨⟩;exact Nat.le_refl _)
    have hWn:Blk w9 wq.heap.size 115 (rowV (schedP bs (k+1))):=by
     obtain⟨rfl,rfl,rfl,rfl⟩:=HJ.out;obtain⟨rfl,rfl,rfl,rfl⟩:=HX.out;rw[schedP_hi _ _ (by omega)]at hW9
     exact hW9
    clear hW9 hg9 hWd;go_wp2_with fail
    go_roundw
    case rel=>exact⟨k+1,by go_num,by omega,hWn,hbn⟩
    case measure=>simp[intOf];omega
  ·obtain rfl:k=64:=by omega
   rw[show((64:Nat):Int)=64 from rfl]at hlt⊢;have hhr:=hh.below hbw;have hKr:=hKb.below hbw;have d0:wr.cell? ⟨hg,0,none⟩=some (.int .u32 h0.a):=hhr.cell 0 rfl;have d1:wr.cell? ⟨hg,1,none⟩=some (.int .u32 h0.b):=hhr.cell 1 rfl;have d2:wr.cell? ⟨hg,2,none⟩=some (.int .u32 h0.c):=hhr.cell 2 rfl;have d3:wr.cell? ⟨hg,3,none⟩=some (.int .u32 h0.d):=hhr.cell 3 rfl;have d4:wr.cell? ⟨hg,4,none⟩=some (.int .u32 h0.e):=hhr.cell 4 rfl;have d5:wr.cell? ⟨hg,5,none⟩=some (.int .u32 h0.f):=hhr.cell 5 rfl;have d6:wr.cell? ⟨hg,6,none⟩=some (.int .u32 h0.g):=hhr.cell 6 rfl;have d7:wr.cell? ⟨hg,7,none⟩=some (.int .u32 h0.h):=hhr.cell 7 rfl;have HZ:=Hh hbw.size;have HGW:Hid (hg<wq.heap.size∧kg<wq.heap.size):=⟨hh.lt,hKb.lt⟩
   obtain⟨G,hG⟩:∃ G,wr.heap.size=G:=⟨_,rfl⟩
   have HN2:=Hh (Blk.new wr 116 h0.cells);rw[hG]at HN2;have hW2:=hW.alloc (.cells h0.cells 116);have hb2:=hbw.alloc hbw.size (.cells h0.cells 116);have HG:=Hh hG;have HGS:Hid (wq.heap.size<G):=by have:=hW.lt;rw[Hid];omega
   clear HN hlt hk64 hhr hG;go_wp2_with fail
   rw[HG.out];go_loopw [97] (fun v97 wx=>∃ k:Nat,v97=.int .i64 (k:Int)∧k≤64∧Blk wx G 116 (roundsP constK32 (schedP bs 64) h0 k).cells∧Blk wx wq.heap.size 115 (rowV (schedP bs 64))∧Below wq.heap.size wq wx) (fun v97 _=>(64-intOf v97).toNat)
   case atStart=>exact⟨0,rfl,by omega,HN2.out,hW2,hb2⟩
   case round =>
    clear hW2 hb2 HN2 d0 d1 d2 d3 d4 d5 d6 d7 hW hKr;obtain⟨k,rfl,hk64,hS,hWx,hbx⟩:=hrel
    by_cases hlt:(k:Int)<64
    ·obtain⟨s,hs⟩:∃ s,roundsP constK32 (schedP bs 64) h0 k=s:=⟨_,rfl⟩
     rw[hs]at hS;have HSE:=Hh hs;clear hs;have c0:wr.cell? ⟨G,0,none⟩=some (.int .u32 s.a):=hS.cell 0 rfl;have c1:wr.cell? ⟨G,1,none⟩=some (.int .u32 s.b):=hS.cell 1 rfl;have c2:wr.cell? ⟨G,2,none⟩=some (.int .u32 s.c):=hS.cell 2 rfl;have c3:wr.cell? ⟨G,3,none⟩=some (.int .u32 s.d):=hS.cell 3 rfl;have c4:wr.cell? ⟨G,4,none⟩=some (.int .u32 s.e):=hS.cell 4 rfl;have c5:wr.cell? ⟨G,5,none⟩=some (.int .u32 s.f):=hS.cell 5 rfl;have c6:wr.cell? ⟨G,6,none⟩=some (.int .u32 s.g):=hS.cell 6 rfl;have c7:wr.cell? ⟨G,7,none⟩=some (.int .u32 s.h):=hS.cell 7 rfl;have ck:=(hKb.below hbx).cell k (rowW_get _ _ (by have:=H64.out;omega));have cw:=hWx.cell k (rowV_get _ _ (by rw[schedP_len];omega));have h80:(k:Int)<80:=by omega
     obtain⟨xk,hxk⟩:∃ x,getW constKI k=x:=⟨_,rfl⟩
     obtain⟨xw,hxw⟩:∃ x,getW (schedP bs 64) k=x:=⟨_,rfl⟩
     rw[hxk]at ck;rw[hxw]at cw;have HX:=Hh (And.intro hxk hxw);clear hxk hxw;go_upto_region 15 with fail
     refine wp_region_ways 6 (fun wx=>wx.cell? ⟨G,0,none⟩=some (.int .u32 s.a)∧wx.cell? ⟨G,4,none⟩=some (.int .u32 s.e)) (by kernel_rfl) (⟨c0,c4⟩) (fun hHeld=>?_)
     refine TkS 0 rfl hHeld ?_
     refine TkS 1 rfl hHeld ?_
     refine TkS 2 rfl hHeld ?_
     refine TkS 3 rfl hHeld ?_
     refine TkS 4 rfl hHeld ?_
     refine TkS 5 rfl hHeld ?_
     refine Wd ?_
     clear hHeld;go_upto_region 16 with fail
     refine wp_region_ways 33 (fun wx=>wx.cell? ⟨G,7,none⟩=some (.int .u32 s.h)∧wx.cell? ⟨G,5,none⟩=some (.int .u32 s.f)∧wx.cell? ⟨G,6,none⟩=some (.int .u32 s.g)∧wx.cell? ⟨kg,k,none⟩=some (.int .u64 xk)∧wx.cell? ⟨wq.heap.size,k,none⟩=some (.int .u32 xw)) (by kernel_rfl) (⟨c7,c5,c6,ck,cw⟩) (fun hHeld=>?_)
     refine TkS 0 rfl hHeld ?_
     refine TkS 1 rfl hHeld ?_
     refine TkS 2 rfl hHeld ?_
     refine TkS 4 rfl hHeld ?_
     refine TkS 7 rfl hHeld ?_
     refine TkS 11 rfl hHeld ?_
     refine TkS 12 rfl hHeld ?_
     refine TkS 13 rfl hHeld ?_
     refine TkS 14 rfl hHeld ?_
     refine TkS 15 rfl hHeld ?_
     refine TkS 16 rfl hHeld ?_
     refine TkS 17 rfl hHeld ?_
     refine TkS 18 rfl hHeld ?_
     refine TkS 19 rfl hHeld ?_
     refine TkS 20 rfl hHeld ?_
     refine TkS 22 rfl hHeld ?_
     refine TkS 23 rfl hHeld ?_
     refine TkS 24 rfl hHeld ?_
     refine TkS 25 rfl hHeld ?_
     refine TkS 26 rfl hHeld ?_
     refine TkS 28 rfl hHeld ?_
     refine TkS 29 rfl hHeld ?_
     refine TkS 30 rfl hHeld ?_
     refine To 3 rfl fun K hK=>?_
     go_simp
     refine(ref_rot6 _ _).mono ?_
     rintro e w5 ⟨rfl,rfl⟩
     clear hHeld
     refine hK.out _ _ (fun _=>?_) (fun hHeld=>?_)
     ·exact⟨c7,c5,c6,ck,cw⟩
     clear hK K;replace hHeld:=hHeld (by decide)
     try simp only[Act.put,zz1,zz2,zz3,zz4,zz5,zz6]
     refine To 5 rfl fun K hK=>?_
     go_simp
     refine(ref_rot11 _ _).mono ?_
     rintro e w5 ⟨rfl,rfl⟩
     clear hHeld
     refine hK.out _ _ (fun _=>?_) (fun hHeld=>?_)
     ·exact⟨c7,c5,c6,ck,cw⟩
     clear hK K;replace hHeld:=hHeld (by decide)
     try simp only[Act.put,zz1,zz2,zz3,zz4,zz5,zz6]
     refine TkS 6 rfl hHeld ?_
     refine To 8 rfl fun K hK=>?_
     go_simp
     refine(ref_rot25 _ _).mono ?_
     rintro e w5 ⟨rfl,rfl⟩
     clear hHeld
     refine hK.out _ _ (fun _=>?_) (fun hHeld=>?_)
     ·exact⟨c7,c5,c6,ck,cw⟩
     clear hK K;replace hHeld:=hHeld (by decide)
     try simp only[Act.put,zz1,zz2,zz3,zz4,zz5,zz6]
     refine TkS 9 rfl hHeld ?_
     refine TkS 10 rfl hHeld ?_
     refine TkS 21 rfl hHeld ?_
     refine TkS 27 rfl hHeld ?_
     refine TkS 31 rfl hHeld ?_
     refine TkS 32 rfl hHeld ?_
     refine Wd ?_
     clear hHeld;obtain⟨xu,hxu⟩:∃ x,IntKind.u32.wrap (xk/4294967296)=x:=⟨_,rfl⟩
     rw[hxu];have HXU:=Hh hxu;clear hxu;go_upto_region 17 with fail
     refine wp_region_ways 25 (fun wx=>wx.cell? ⟨G,1,none⟩=some (.int .u32 s.b)∧wx.cell? ⟨G,2,none⟩=some (.int .u32 s.c)) (by kernel_rfl) (⟨c1,c2⟩) (fun hHeld=>?_)
     refine TkS 0 rfl hHeld ?_
     refine TkS 2 rfl hHeld ?_
     refine TkS 5 rfl hHeld ?_
     refine TkS 8 rfl hHeld ?_
     refine TkS 9 rfl hHeld ?_
     refine TkS 10 rfl hHeld ?_
     refine TkS 11 rfl hHeld ?_
     refine TkS 12 rfl hHeld ?_
     refine TkS 13 rfl hHeld ?_
     refine TkS 14 rfl hHeld ?_
     refine TkS 15 rfl hHeld ?_
     refine TkS 16 rfl hHeld ?_
     refine TkS 17 rfl hHeld ?_
     refine TkS 18 rfl hHeld ?_
     refine TkS 19 rfl hHeld ?_
     refine TkS 20 rfl hHeld ?_
     refine TkS 21 rfl hHeld ?_
     refine TkS 22 rfl hHeld ?_
     refine To 1 rfl fun K hK=>?_
     go_simp
     refine(ref_rot2 _ _).mono ?_
     rintro e w5 ⟨rfl,rfl⟩
     clear hHeld
     refine hK.out _ _ (fun _=>?_) (fun hHeld=>?_)
     ·exact⟨c1,c2⟩
     clear hK K;replace hHeld:=hHeld (by decide)
     try simp only[Act.put,zz1,zz2,zz3,zz4,zz5,zz6]
     refine To 3 rfl fun K hK=>?_
     go_simp
     refine(ref_rot13 _ _).mono ?_
     rintro e w5 ⟨rfl,rfl⟩
     clear hHeld
     refine hK.out _ _ (fun _=>?_) (fun hHeld=>?_)
     ·exact⟨c1,c2⟩
     clear hK K;replace hHeld:=hHeld (by decide)
     try simp only[Act.put,zz1,zz2,zz3,zz4,zz5,zz6]
     refine TkS 4 rfl hHeld ?_
     refine To 6 rfl fun K hK=>?_
     go_simp
     refine(ref_rot22 _ _).mono ?_
     rintro e w5 ⟨rfl,rfl⟩
     clear hHeld
     refine hK.out _ _ (fun _=>?_) (fun hHeld=>?_)
     ·exact⟨c1,c2⟩
     clear hK K;replace hHeld:=hHeld (by decide)
     try simp only[Act.put,zz1,zz2,zz3,zz4,zz5,zz6]
     refine TkS 7 rfl hHeld ?_
     refine TkS 23 rfl hHeld ?_
     refine TkS 24 rfl hHeld ?_
     refine Wd ?_
     clear hHeld;go_wp2_with (with_reducible refine stop_store ?_)
     refine wpList_store_item rfl _ _ _ rfl rfl G (roundP s xu xw).cells rfl rfl _ _ hS size_w8 rfl (S8.one _) fun w9 hS9 hg9=>?_
     have hS10:Blk w9 G 116 (roundsP constK32 (schedP bs 64) h0 (k+1)).cells:=by
      rw[roundsP,HSE.out,constK32_get _ (by omega),upperP,HX.out.1,HX.out.2,HXU.out]
      exact hS9
     have hGs:wq.heap.size<G:=HGS.out;have hW10:=hWx.drew.drew.drew.grown hg9 (by intro hc;injection hc;omega);have hb10:=hbx.drew.drew.drew.grown hg9 hbx.size (by rintro q ⟨⟩;omega);clear hS9 hg9 hS hWx c0 c1 c2 c3 c4 c5 c6 c7 ck cw hbx hGs;go_wp2_with fail
     go_roundw
     case rel=>exact⟨k+1,by go_num,by omega,hS10,hW10,hb10⟩
     case measure=>simp[intOf];omega
    ·obtain rfl:k=64:=by omega
     rw[show((64:Nat):Int)=64 from rfl]at hlt⊢;obtain⟨s,hs⟩:∃ s,roundsP constK32 (schedP bs 64) h0 64=s:=⟨_,rfl⟩
     rw[hs]at hS;have HSE:=Hh hs;have hh2:=hh.below hbx;have hGs:wq.heap.size<G:=HGS.out;have hgh:hg<wq.heap.size:=HGW.out.1;clear hs hlt hk64 hKb hWx;go_wp2_with fail
     go_loopw [179] (fun v179 wx=>∃ k:Nat,v179=.int .i64 (k:Int)∧k≤8∧Blk wx hg 116 (rowV (addP h0.list s.list k))∧Blk wx G 116 (rowV s.list)∧wq.grownBy wx (some hg)) (fun v179 _=>(8-intOf v179).toNat)
     case atStart=>exact⟨0,rfl,by omega,hh2,hS,grown_of_below hbx _⟩
     case round =>
      clear hh2 hS hbx;obtain⟨k,rfl,hk8,hhx,hSx,hgx⟩:=hrel
      by_cases hlt:(k:Int)<8
      ·have ch:=hhx.drew.cell k (rowV_get _ _ (by rw[addP_len];simp[S8.list];omega));have cs:=hSx.drew.cell k (rowV_get _ _ (by simp[S8.list];omega));obtain⟨xh,hxh⟩:∃ x,getW (addP h0.list s.list k) k=x:=⟨_,rfl⟩
       obtain⟨xs,hxs⟩:∃ x,getW s.list k=x:=⟨_,rfl⟩
       rw[hxh]at ch;rw[hxs]at cs;have HX:=Hh (And.intro hxh hxs);clear hxh hxs;go_upto_region 23 with fail
       refine wp_region_ways 8 (fun wx=>wx.cell? ⟨hg,k,none⟩=some (.int .u32 xh)∧wx.cell? ⟨G,k,none⟩=some (.int .u32 xs)) (by kernel_rfl) (⟨ch,cs⟩) (fun hHeld=>?_)
       refine Tk 0 rfl hHeld ?_
       refine Tk 1 rfl hHeld ?_
       refine Tk 2 rfl hHeld ?_
       refine Tk 3 rfl hHeld ?_
       refine Tk 4 rfl hHeld ?_
       refine Tk 5 rfl hHeld ?_
       refine Tk 6 rfl hHeld ?_
       refine Tk 7 rfl hHeld ?_
       refine To 8 rfl fun K hK=>?_
       rw[if_pos (by rfl)]
       refine wp_store_cell _ _ _ rfl hg k (.int .u32 (IntKind.u32.wrap (xh+xs))) rfl rfl _ _ hhx.drew size_u32 (by rw[rowV_size,addP_len];simp[S8.list];omega) rfl fun w9 hh9 hg9=>?_
       refine Kz hK ?_
       clear hK K
       refine Wd ?_
       clear hHeld
       have hh10:Blk w9 hg 116 (rowV (addP h0.list s.list (k+1))):=by
        obtain⟨rfl,rfl⟩:=HX.out;rw[rowV_set]at hh9
        exact hh9
       have hS10:=hSx.drew.grown hg9 (by intro hc;injection hc;omega);have hg10:=grown_step (grown_drew hgx) hg9 (.inl rfl);clear hh9 hg9 ch cs hhx hSx hgx;go_wp2_with fail
       go_roundw
       case rel=>exact⟨k+1,by go_num,by omega,hh10,hS10,hg10⟩
       case measure=>simp[intOf];omega
      ·obtain rfl:k=8:=by omega
       rw[show((8:Nat):Int)=8 from rfl]at hlt⊢;have hE:rowV (addP h0.list s.list 8)=(blockP constK32 h0 bs).cells:=by rw[blockP,HSE.out];rfl
       rw[hE]at hhx;clear hE;have hRx:=(hR.below (Below.refl _ _)).grown hgx (by intro hc;injection hc;omega);have l0:=hhx.cell 0 rfl;have l1:=hhx.cell 1 rfl;have l2:=hhx.cell 2 rfl;have l3:=hhx.cell 3 rfl;have l4:=hhx.cell 4 rfl;have l5:=hhx.cell 5 rfl;have l6:=hhx.cell 6 rfl;have l7:=hhx.cell 7 rfl;go_wp2_with (with_reducible refine stop_store ?_)
       refine wpList_store_item rfl _ _ _ rfl rfl (hg+1) (blockP constK32 h0 bs).cells rfl rfl _ _ hRx size_w8 rfl (S8.one _) fun wz hRz hgz=>?_
       clear l0 l1 l2 l3 l4 l5 l6 l7
       have hbz:Below w.heap.size w wz:=by
        have e1:=HBQ.out;have e2:=HKG.out.2
        exact(e1.grown hgx e1.size (by rintro q ⟨⟩;omega)).grown hgz (Nat.le_trans e1.size hgx.size) (by rintro q ⟨⟩;omega)
       go_wp2_with fail
       refine ret_row rfl rfl hRz rfl rfl size_w8 rfl ?_
       exact⟨rfl,hbz⟩
def startP:S8:=⟨upperP 7640891576956012808,upperP 13503953896175478587,upperP 4354685564936845355,upperP 11912009170470909681,upperP 5840696475078001361,upperP 11170449401992604703,upperP 2270897969802886507,upperP 6620516959819538809⟩
def blkB (m:List UInt8) (k:Nat):List UInt8:=(m.drop (64*k)).take 64
def foldP (m:List UInt8):Nat→S8
 | 0=>startP
 | k+1=>blockP constK32 (foldP m k) (blkB m k)
def byteW (x:Int) (d:Int):UInt8:=UInt8.ofNat (x/d%256).toNat
def wordB (x:Int):List UInt8:=[byteW x 16777216,byteW x 65536,byteW x 256,byteW x 1]
def shaP (l:List UInt8):List UInt8:=(foldP (padP l) ((padP l).length/64)).list.flatMap wordB
theorem byteW_val (x d:Int):byteV (byteW x d)=.int .u8 (IntKind.u8.wrap (x/d)):=by
 have h:((x/d%256).toNat:Int)=x/d%256:=Int.toNat_of_nonneg (Int.emod_nonneg _ (by decide));have h2:(x/d%256).toNat<256:=by have:=Int.emod_lt_of_pos (x/d) (show(0:Int)<256 by decide);omega
 rw[byteV,byteW,UInt8.toNat_ofNat',Nat.mod_eq_of_lt h2,h];rfl
theorem shaP_len (l:List UInt8):(shaP l).length=32:=rfl
theorem blkB_len {m:List UInt8}{k:Nat}(h:64*k+64≤m.length):(blkB m k).length=64:=by
 rw[blkB,List.length_take,List.length_drop]
 omega
def kP:Nat→List Int
 | 0=>List.replicate 64 0
 | k+1=>(kP k).set k (getW constK32 k)
theorem kP_len:∀ k,(kP k).length=64
 | 0=>rfl
 | k+1=>by rw[kP,List.length_set,kP_len k]
def KK:List Int:=constK32.take 64
theorem KK_len:KK.length=64:=rfl
theorem kP_64:kP 64=KK:=by kernel_rfl
theorem K64_words:((List.range 64).all fun i=>decide (upperP ((getN (constK.take 64) i:Nat):Int)=getW constK32 i))=true:=by kernel_rfl
theorem K64_word {i:Nat}(h:i<64):upperP ((getN (constK.take 64) i:Nat):Int)=getW constK32 i:=by
 have h1:=K64_words;rw[List.all_eq_true]at h1
 exact of_decide_eq_true (h1 i (List.mem_range.2 h))
def hP8:Nat→List Int
 | 0=>List.replicate 8 0
 | k+1=>(hP8 k).set k (upperP ((getN constH k:Nat):Int))
theorem hP8_len:∀ k,(hP8 k).length=8
 | 0=>rfl
 | k+1=>by rw[hP8,List.length_set,hP8_len k]
theorem hP8_8:hP8 8=startP.list:=by kernel_rfl
def iP8:Nat→List Int
 | 0=>List.replicate 8 0
 | k+1=>(iP8 k).set k (upperP (getW constHI k))
theorem iP8_len:∀ k,(iP8 k).length=8
 | 0=>rfl
 | k+1=>by rw[iP8,List.length_set,iP8_len k]
theorem iP8_8:iP8 8=startP.list:=by kernel_rfl
theorem KK_get {i:Nat}(h:i<64):getW KK i=getW constK32 i:=by
 unfold getW KK
 rw[List.getD_eq_getElem?_getD,List.getD_eq_getElem?_getD,List.getElem?_take,if_pos h]
theorem roundsP_congr {K K' W:List Int}{h:S8}:∀ n,(∀ i,i<n→getW K i=getW K' i)→roundsP K W h n=roundsP K' W h n
 | 0,_=>rfl
 | n+1,hn=>by rw[roundsP,roundsP,roundsP_congr n (fun i hi=>hn i (by omega)),hn n (by omega)]
theorem blockP_KK (h:S8) (bs:List UInt8):blockP KK h bs=blockP constK32 h bs:=by
 unfold blockP
 rw[roundsP_congr 64 (fun i hi=>KK_get hi)]
theorem foldP_succ (m:List UInt8) (k:Nat):foldP m (k+1)=blockP constK32 (foldP m k) (blkB m k):=rfl
def outP (s:S8) (i:Nat):List UInt8:=(s.list.take i).flatMap wordB
theorem outP_8 (s:S8):outP s 8=s.list.flatMap wordB:=by rw[outP,List.take_of_length_le (by rw[S8.list];simp)]
theorem wordB_len (x:Int):(wordB x).length=4:=rfl
theorem outP_len (s:S8) (i:Nat) (h:i≤8):(outP s i).length=4*i:=by
 obtain rfl | rfl | rfl | rfl | rfl | rfl | rfl | rfl | rfl:i=0∨i=1∨i=2∨i=3∨i=4∨i=5∨i=6∨i=7∨i=8:=by omega
 all_goals rfl
theorem outP_succ (s:S8) (i:Nat) (h:i<8):outP s i++wordB (getW s.list i)=outP s (i+1):=by
 have hl:i<s.list.length:=by rw[S8.list];exact h
 rw[outP,outP,List.take_succ_eq_append_getElem hl,List.flatMap_append,List.flatMap_singleton]
 unfold getW
 rw[List.getD_eq_getElem?_getD,List.getElem?_eq_getElem hl];rfl
theorem byteW_mod (x d:Int):byteV (byteW x d)=.int .u8 (x/d%256):=by
 rw[byteW_val,IntKind.wrap_u8]
theorem wordB_cells (x:Int):(wordB x).map byteV=[.int .u8 (x/16777216%256),.int .u8 (x/65536%256),.int .u8 (x/256%256),.int .u8 (x%256)]:=by
 simp only[wordB,List.map_cons,List.map_nil]
 rw[byteW_mod,byteW_mod,byteW_mod,byteW_mod,Int.ediv_one]
theorem size_w8q':(Tryz.prog.info? 111).map (·.size)=some 8:=by kernel_rfl
theorem ref_initial (w:World):Calls Tryz.prog 89 #[] w fun e w'=>e=.returned (.agg (rowW constHI))∧Below w.heap.size w w':=by
 have hB:=Blk.new w 111 (rowW (List.replicate 8 0));have hb:=below_box w (.cells (rowW (List.replicate 8 0)) 111);go_enter Tryz.func89,Tryz.ntmps89
 go_wp2_with (with_reducible refine stop_store ?_)
 refine wpList_store_item rfl _ _ _ rfl rfl w.heap.size (rowW constHI) rfl rfl _ _ hB size_w8q' (by simp[rowW_size,constHI_len]) (rowW_one _) fun w2 hB2 hg2=>?_
 go_wp2_with fail
 refine ret_row rfl rfl hB2 rfl rfl size_w8q' rfl ?_
 exact⟨rfl,hb.grown hg2 hb.size (by rintro q ⟨⟩;exact Nat.le_refl _)⟩
theorem ref_Sum256 {A:Option Addr}{c:Nat}{l:List UInt8}{n:Nat}(hn:n=l.length) (hmax:l.length≤1099511627) (w:World) (hS:Src w A (l.map byteV)) :
  Calls Tryz.prog 66 #[.slice A n c] w fun e w'=>∃ r,e=.returned r∧Fresh w (shaP l) r w':=by
 have HN:=Hh (And.intro hn hmax);have HS:=Hh hS;have hG:=Blk.new w 116 (rowV (iP8 0));have hb:=below_box w (.cells (rowV (iP8 0)) 116);have IN:=Hh (ref_initial (w.alloc (.cells (rowV (iP8 0)) 116)));obtain⟨G,hGe⟩:∃ G,w.heap.size=G:=⟨_,rfl⟩
 have HGE:=Hh hGe;rw[hGe]at hG;clear hn hmax hS hGe;go_enter Tryz.func66,Tryz.ntmps66
 go_wp2_with fail
 rw[HGE.out]
 refine IN.out.mono ?_
 rintro e w2 ⟨rfl,hb2⟩
 have hG2:=hG.below hb2;have hbb:=hb.trans (hb2.mono hb.size);clear hG hb hb2 IN;go_wp2_with fail
 go_loopw [12] (fun v12 wx=>∃ i:Nat,v12=.int .i64 (i:Int)∧i≤8∧Blk wx G 116 (rowV (iP8 i))∧Below w.heap.size w wx) (fun v12 _=>(8-intOf v12).toNat)
 case atStart=>exact⟨0,rfl,by omega,hG2,hbb⟩
 case round =>
  clear hG2 hbb;obtain⟨i,rfl,hi,hG,hb⟩:=hrel
  by_cases hlt:(i:Int)<8
  ·have hi8:i<8:=by omega
   have X0:=run_index8w wr (rowW constHI) i (.int .u64 (getW constHI i)) (i:Int) rfl hi8 (rowW_get constHI i hi8);obtain⟨kw,hkw⟩:∃ kw,getW constHI i=kw:=⟨_,rfl⟩
   rw[hkw]at X0;have HKW:=Hh hkw;clear hkw;go_wp2_with (with_reducible refine stop_store ?_)
   refine wpList_store_cell rfl _ _ _ rfl rfl G i (.int .u32 (upperP kw)) rfl (by rfl) _ _ hG size_u32 (by rw[rowV_size,iP8_len];exact hi8) rfl fun w9 hG9 hg9=>?_
   rw[rowV_set,← HKW.out,← show iP8 (i+1)=(iP8 i).set i (upperP (getW constHI i)) from rfl]at hG9;have hb9:=hb.grown hg9 hb.size (by rintro q ⟨⟩;have:=HGE.out;omega);clear hG hb hg9 X0;go_wp2_with fail
   go_roundw
   case rel=>exact⟨i+1,by go_num,by omega,hG9,hb9⟩
   case measure=>simp[intOf];omega
  ·obtain rfl:i=8:=by omega
   rw[iP8_8,← S8.cells_eq]at hG;rw[show((8:Nat):Int)=8 from rfl]at hlt⊢;have PD:=Hh (ref_pad (c:=c) HN.out.1 HN.out.2 wr (HS.out.below hb));go_wp2_with fail
   refine PD.out.mono ?_
   rintro e w5 ⟨r5,rfl,hf5⟩
   obtain⟨PA,pc,rfl,hpl,hpm,_⟩:=hf5.own.form;have hG5:=hG.below hf5.2;have hb5:=hb.trans (hf5.2.mono hb.size)
   have HPG:Hid (∀ q,PA.map (·.block)=some q→G<q):=fun q hq=>by
    have h1:=(hf5.own.lt q (by cases PA with | none=>cases hq | some p=>exact hq)).1;have h2:=hG.lt
    omega
   obtain⟨Hp,_,hHp,hHf,_,hBp⟩:=hf5.own.snap (H:=fun _=>none) (fun _ _ h=>by cases h) (fun _ _=>rfl)
   have HNO:Hid (∀ b o,Hp b=some o→G<b):=fun b o hb=>by
    rcases hHf b o hb with h | h
    ·cases h
    ·exact HPG.out b h
   have HPL:=Hh (padP_len l);have hp0:0<(padP l).length:=by rw[HPL.out.1];omega
   obtain⟨pb,po,rfl,_⟩:=hBp.at_ hp0;obtain⟨m,hm⟩:∃ m,(padP l).length=m:=⟨_,rfl⟩
   have HM:=Hh hm;rw[hm]at hpl⊢
   have HMM:Hid (m≤1099511627776∧m≤pc∧pc≤9223372036854775807):=by
    refine⟨?_,hpl,hpm⟩
    have h1:=HPL.out.1;have h2:=padN_lt l.length;have h3:=HN.out.2;rw[HM.out]at h1
    omega
   have HBP:=Hh hBp;clear hG hb hf5 PD hHf hm hpl hpm hp0 hBp;go_wp2_with fail
   go_loopw [7] (fun v7 wx=>∃ k lo:Nat,v7=.int .i64 (lo:Int)∧Hid (lo=64*k)∧Hid (lo≤m)∧Holds wx Hp∧Blk wx G 116 (foldP (padP l) k).cells∧Below w.heap.size w wx) (fun v7 _=>m-(intOf v7).toNat)
   case atStart=>exact⟨0,0,rfl,rfl,Nat.zero_le _,hHp,hG5,hb5⟩
   case round =>
    clear hHp hG5 hb5;obtain⟨k,lo,rfl,HLO,HLM,hHx,hG,hb⟩:=hrel
    by_cases hlt:(lo:Int)<(m:Int)
    ·have h64:Hid (lo+64≤m):=by have:=HPL.out;have:=HM.out;have:=HLO.out;rw[Hid];omega
     have hB64:IsBytes Hp (some ⟨pb,po+lo,none⟩) (pc-lo) (blkB (padP l) k):=by
      have h:=HBP.out.drop' lo (by rw[HM.out];exact HLM.out);rw[if_neg (by have:=HMM.out;omega),Option.map_some,addr_add]at h;have h2:=h.take' 64;rw[HLO.out]at h2⊢
      exact h2
     have hl64:(blkB (padP l) k).length=64:=blkB_len (by have:=HLO.out;have:=h64.out;rw[HM.out];omega);have HB64:=Hh (And.intro hB64 hl64);have HFS:=Hh (foldP_succ (padP l) k);obtain⟨s,hs⟩:∃ s,foldP (padP l) k=s:=⟨_,rfl⟩
     rw[hs]at hG HFS;obtain⟨a0,a1,a2,a3,a4,a5,a6,a7⟩:=s;obtain⟨hi64,hhi⟩:∃ h,lo+64=h:=⟨_,rfl⟩
     have HHI:=Hh hhi;have hw1:IntKind.i64.wrap ((lo:Int)+64)=(hi64:Int):=by rw[← hhi,Int.natCast_add];exact IntWalk.i64_in _ (by have:=HMM.out;have:=h64.out;omega)
     have b1:(lo:Int)≤(hi64:Int):=by omega
     have b2:(hi64:Int)≤(pc:Int):=by have:=HMM.out;have:=h64.out;omega
     have b3:¬ (pc=lo):=by have:=HMM.out;have:=h64.out;omega
     have b4:hi64-lo=64:=by omega
     clear hB64 hl64 hs hhi hi;replace hHx:=hHx.drew;replace hG:=hG.drew;replace hb:=hb.drew;go_upto_region 11 with fail
     refine wp_region_ways 7 (fun wx=>wx.cell? ⟨G,0,none⟩=some (.int .u32 a0)∧wx.cell? ⟨G,1,none⟩=some (.int .u32 a1)∧wx.cell? ⟨G,2,none⟩=some (.int .u32 a2)∧wx.cell? ⟨G,3,none⟩=some (.int .u32 a3)∧wx.cell? ⟨G,4,none⟩=some (.int .u32 a4)∧wx.cell? ⟨G,5,none⟩=some (.int .u32 a5)∧wx.cell? ⟨G,6,none⟩=some (.int .u32 a6)∧wx.cell? ⟨G,7,none⟩=some (.int .u32 a7)) (by kernel_rfl) (⟨hG.cell 0 rfl,hG.cell 1 rfl,hG.cell 2 rfl,hG.cell 3 rfl,hG.cell 4 rfl,hG.cell 5 rfl,hG.cell 6 rfl,hG.cell 7 rfl⟩) (fun hHeld=>?_)
     refine Tk 0 rfl hHeld ?_
     refine Tk 1 rfl hHeld ?_
     refine Tk 2 rfl hHeld ?_
     refine Tk 3 rfl hHeld ?_
     refine Tk 4 rfl hHeld ?_
     refine Tk 5 rfl hHeld ?_
     refine To 6 rfl fun K hK=>?_
     go_simp
     refine(ref_block256 HB64.out.1 HB64.out.2 ⟨a0,a1,a2,a3,a4,a5,a6,a7⟩ _ hHx).mono ?_
     rintro e w6 ⟨rfl,hb6⟩
     replace hHx:=hHx.below hb6 (Nat.le_refl _);replace hG:=hG.below hb6;replace hb:=hb.trans (hb6.mono hb.size);clear hb6;rw[← HFS.out];clear hHeld
     refine hK.out _ _ (fun _=>?_) (fun hHeld=>?_)
     ·exact⟨hG.cell 0 rfl,hG.cell 1 rfl,hG.cell 2 rfl,hG.cell 3 rfl,hG.cell 4 rfl,hG.cell 5 rfl,hG.cell 6 rfl,hG.cell 7 rfl⟩
     clear hK K;replace hHeld:=hHeld (by decide)
     try simp only[Act.put,zz1,zz2,zz3,zz4,zz5,zz6]
     refine To 7 rfl fun K hK=>?_
     rw[if_pos (by rfl)]
     refine wp_store_item _ _ _ rfl G (foldP (padP l) (k+1)).cells rfl rfl _ _ hG size_w8 rfl (S8.one _) fun w9 hG9 hg9=>?_
     refine Kz hK ?_
     clear hK K
     refine Wd ?_
     clear hHeld;have hb9:=hb.grown hg9 hb.size (by rintro q ⟨⟩;have:=HGE.out;omega)
     have hHx9:Holds w9 Hp:=hHx.grown hg9 (by
      rintro q ⟨⟩
      cases hq:Hp G with
      | none=>rfl
      | some o=>have:=HNO.out _ _ hq;omega)
     clear hG hb hHx hg9;go_wp2_with fail
     go_roundw
     case rel=>exact⟨k+1,hi64,rfl,by have:=HLO.out;have:=HHI.out;rw[Hid];omega,by have:=HHI.out;have:=h64.out;rw[Hid];omega,hHx9,hG9,hb9⟩
     case measure=>have:=HHI.out;have:=h64.out;simp[intOf];omega
    ·have hkn:k=(padP l).length/64:=by have:=HLO.out;have:=HM.out;have:=HLM.out;omega
     rw[hkn]at hG;have HSH:Hid ((foldP (padP l) ((padP l).length/64)).list.flatMap wordB=shaP l):=rfl;obtain⟨s,hs⟩:∃ s,foldP (padP l) ((padP l).length/64)=s:=⟨_,rfl⟩
     rw[hs]at hG HSH;rw[← outP_8]at HSH;obtain⟨a0,a1,a2,a3,a4,a5,a6,a7⟩:=s;have HOL:=Hh (fun i hi=>outP_len ⟨a0,a1,a2,a3,a4,a5,a6,a7⟩ i hi);have HOS:=Hh (fun i hi=>outP_succ ⟨a0,a1,a2,a3,a4,a5,a6,a7⟩ i hi);clear hs hkn hHx hi;have q0:=hG.cell 0 (v:=.int .u32 a0) rfl;have q1:=hG.cell 1 (v:=.int .u32 a1) rfl;have q2:=hG.cell 2 (v:=.int .u32 a2) rfl;have q3:=hG.cell 3 (v:=.int .u32 a3) rfl;have q4:=hG.cell 4 (v:=.int .u32 a4) rfl;have q5:=hG.cell 5 (v:=.int .u32 a5) rfl;have q6:=hG.cell 6 (v:=.int .u32 a6) rfl;have q7:=hG.cell 7 (v:=.int .u32 a7) rfl;have hb9:=hb;clear hG hb;go_wp2_with fail
     go_loopw [8,38] (fun v10 v51 wx=>∃ (i mo co:Nat) (VO:Option Addr),v10=.slice VO mo co∧v51=.int .i64 (i:Int)∧i≤8∧Hid (mo=4*i)∧OwnB wx w.heap.size (.slice VO mo co) (outP ⟨a0,a1,a2,a3,a4,a5,a6,a7⟩ i)∧Below w.heap.size w wx) (fun _ v51 _=>(8-intOf v51).toNat)
     case atStart=>exact⟨0,0,0,none,rfl,rfl,by omega,rfl,OwnB.nil _ _,hb9⟩
     case round =>
      clear q0 q1 q2 q3 q4 q5 q6 q7 hb9;obtain⟨i,mo,co,VO,rfl,rfl,hi,HMO,hO,hb⟩:=hrel
      rcases(show i=0∨i=1∨i=2∨i=3∨i=4∨i=5∨i=6∨i=7∨i=8 by omega) with rfl | rfl | rfl | rfl | rfl | rfl | rfl | rfl | rfl
      ·have X0:=run_index8u wr #[.int .u32 a0,.int .u32 a1,.int .u32 a2,.int .u32 a3,.int .u32 a4,.int .u32 a5,.int .u32 a6,.int .u32 a7] 0 (.int .u32 a0) 0 rfl (by omega) rfl;go_wp2_with (at_builtin;refine stop_in ?_)
       unfold Stopped
       clear X0;have hO1:=hO.alloc (.cells #[.int .u8 (a0/16777216%256),.int .u8 (a0/65536%256),.int .u8 (a0/256%256),.int .u8 (a0%256)] 5);have hb1:=hb.alloc hb.size (.cells #[.int .u8 (a0/16777216%256),.int .u8 (a0/65536%256),.int .u8 (a0/256%256),.int .u8 (a0%256)] 5)
       refine wpList_app_bytes rfl (.tmp 41) (.tmp 53) rfl w.heap.size _ _ rfl hO1 _ 4 _ (wordB a0) rfl rfl (Src.new _ _ _ _ rfl _ (by rw[wordB_cells])) (by rw[HOL.out 0 (by omega),wordB_len];omega) hb1.size fun v' w5 hO5 hg5 hat5=>?_
       have hb5:=below_of_grown hb1 hg5 (fun q hq=>(hO.lt q hq).1);replace hO5:=(HOS.out 0 (by omega)) ▸ hO5;obtain⟨A5,c5,rfl,_⟩:=hO5.form;rw[HOL.out (0+1) (by omega)]at hO5⊢;clear hO hb hO1 hb1 hg5 hat5;go_wp2_with fail
       go_roundw
       case rel=>exact⟨1,_,c5,A5,rfl,by go_num,by omega,rfl,hO5,hb5⟩
       case measure=>simp[intOf]
      ·have X0:=run_index8u wr #[.int .u32 a0,.int .u32 a1,.int .u32 a2,.int .u32 a3,.int .u32 a4,.int .u32 a5,.int .u32 a6,.int .u32 a7] 1 (.int .u32 a1) 1 rfl (by omega) rfl;go_wp2_with (at_builtin;refine stop_in ?_)
       unfold Stopped
       clear X0;have hO1:=hO.alloc (.cells #[.int .u8 (a1/16777216%256),.int .u8 (a1/65536%256),.int .u8 (a1/256%256),.int .u8 (a1%256)] 5);have hb1:=hb.alloc hb.size (.cells #[.int .u8 (a1/16777216%256),.int .u8 (a1/65536%256),.int .u8 (a1/256%256),.int .u8 (a1%256)] 5)
       refine wpList_app_bytes rfl (.tmp 41) (.tmp 53) rfl w.heap.size _ _ rfl hO1 _ 4 _ (wordB a1) rfl rfl (Src.new _ _ _ _ rfl _ (by rw[wordB_cells])) (by rw[HOL.out 1 (by omega),wordB_len];omega) hb1.size fun v' w5 hO5 hg5 hat5=>?_
       have hb5:=below_of_grown hb1 hg5 (fun q hq=>(hO.lt q hq).1);replace hO5:=(HOS.out 1 (by omega)) ▸ hO5;obtain⟨A5,c5,rfl,_⟩:=hO5.form;rw[HOL.out (1+1) (by omega)]at hO5⊢;clear hO hb hO1 hb1 hg5 hat5;go_wp2_with fail
       go_roundw
       case rel=>exact⟨2,_,c5,A5,rfl,by go_num,by omega,rfl,hO5,hb5⟩
       case measure=>simp[intOf]
      ·have X0:=run_index8u wr #[.int .u32 a0,.int .u32 a1,.int .u32 a2,.int .u32 a3,.int .u32 a4,.int .u32 a5,.int .u32 a6,.int .u32 a7] 2 (.int .u32 a2) 2 rfl (by omega) rfl;go_wp2_with (at_builtin;refine stop_in ?_)
       unfold Stopped
       clear X0;have hO1:=hO.alloc (.cells #[.int .u8 (a2/16777216%256),.int .u8 (a2/65536%256),.int .u8 (a2/256%256),.int .u8 (a2%256)] 5);have hb1:=hb.alloc hb.size (.cells #[.int .u8 (a2/16777216%256),.int .u8 (a2/65536%256),.int .u8 (a2/256%256),.int .u8 (a2%256)] 5)
       refine wpList_app_bytes rfl (.tmp 41) (.tmp 53) rfl w.heap.size _ _ rfl hO1 _ 4 _ (wordB a2) rfl rfl (Src.new _ _ _ _ rfl _ (by rw[wordB_cells])) (by rw[HOL.out 2 (by omega),wordB_len];omega) hb1.size fun v' w5 hO5 hg5 hat5=>?_
       have hb5:=below_of_grown hb1 hg5 (fun q hq=>(hO.lt q hq).1);replace hO5:=(HOS.out 2 (by omega)) ▸ hO5;obtain⟨A5,c5,rfl,_⟩:=hO5.form;rw[HOL.out (2+1) (by omega)]at hO5⊢;clear hO hb hO1 hb1 hg5 hat5;go_wp2_with fail
       go_roundw
       case rel=>exact⟨3,_,c5,A5,rfl,by go_num,by omega,rfl,hO5,hb5⟩
       case measure=>simp[intOf]
      ·have X0:=run_index8u wr #[.int .u32 a0,.int .u32 a1,.int .u32 a2,.int .u32 a3,.int .u32 a4,.int .u32 a5,.int .u32 a6,.int .u32 a7] 3 (.int .u32 a3) 3 rfl (by omega) rfl;go_wp2_with (at_builtin;refine stop_in ?_)
       unfold Stopped
       clear X0;have hO1:=hO.alloc (.cells #[.int .u8 (a3/16777216%256),.int .u8 (a3/65536%256),.int .u8 (a3/256%256),.int .u8 (a3%256)] 5);have hb1:=hb.alloc hb.size (.cells #[.int .u8 (a3/16777216%256),.int .u8 (a3/65536%256),.int .u8 (a3/256%256),.int .u8 (a3%256)] 5)
       refine wpList_app_bytes rfl (.tmp 41) (.tmp 53) rfl w.heap.size _ _ rfl hO1 _ 4 _ (wordB a3) rfl rfl (Src.new _ _ _ _ rfl _ (by rw[wordB_cells])) (by rw[HOL.out 3 (by omega),wordB_len];omega) hb1.size fun v' w5 hO5 hg5 hat5=>?_
       have hb5:=below_of_grown hb1 hg5 (fun q hq=>(hO.lt q hq).1);replace hO5:=(HOS.out 3 (by omega)) ▸ hO5;obtain⟨A5,c5,rfl,_⟩:=hO5.form;rw[HOL.out (3+1) (by omega)]at hO5⊢;clear hO hb hO1 hb1 hg5 hat5;go_wp2_with fail
       go_roundw
       case rel=>exact⟨4,_,c5,A5,rfl,by go_num,by omega,rfl,hO5,hb5⟩
       case measure=>simp[intOf]
      ·have X0:=run_index8u wr #[.int .u32 a0,.int .u32 a1,.int .u32 a2,.int .u32 a3,.int .u32 a4,.int .u32 a5,.int .u32 a6,.int .u32 a7] 4 (.int .u32 a4) 4 rfl (by omega) rfl;go_wp2_with (at_builtin;refine stop_in ?_)
       unfold Stopped
       clear X0;have hO1:=hO.alloc (.cells #[.int .u8 (a4/16777216%256),.int .u8 (a4/65536%256),.int .u8 (a4/256%256),.int .u8 (a4%256)] 5);have hb1:=hb.alloc hb.size (.cells #[.int .u8 (a4/16777216%256),.int .u8 (a4/65536%256),.int .u8 (a4/256%256),.int .u8 (a4%256)] 5)
       refine wpList_app_bytes rfl (.tmp 41) (.tmp 53) rfl w.heap.size _ _ rfl hO1 _ 4 _ (wordB a4) rfl rfl (Src.new _ _ _ _ rfl _ (by rw[wordB_cells])) (by rw[HOL.out 4 (by omega),wordB_len];omega) hb1.size fun v' w5 hO5 hg5 hat5=>?_
       have hb5:=below_of_grown hb1 hg5 (fun q hq=>(hO.lt q hq).1);replace hO5:=(HOS.out 4 (by omega)) ▸ hO5;obtain⟨A5,c5,rfl,_⟩:=hO5.form;rw[HOL.out (4+1) (by omega)]at hO5⊢;clear hO hb hO1 hb1 hg5 hat5;go_wp2_with fail
       go_roundw
       case rel=>exact⟨5,_,c5,A5,rfl,by go_num,by omega,rfl,hO5,hb5⟩
       case measure=>simp[intOf]
      ·have X0:=run_index8u wr #[.int .u32 a0,.int .u32 a1,.int .u32 a2,.int .u32 a3,.int .u32 a4,.int .u32 a5,.int .u32 a6,.int .u32 a7] 5 (.int .u32 a5) 5 rfl (by omega) rfl;go_wp2_with (at_builtin;refine stop_in ?_)
       unfold Stopped
       clear X0;have hO1:=hO.alloc (.cells #[.int .u8 (a5/16777216%256),.int .u8 (a5/65536%256),.int .u8 (a5/256%256),.int .u8 (a5%256)] 5);have hb1:=hb.alloc hb.size (.cells #[.int .u8 (a5/16777216%256),.int .u8 (a5/65536%256),.int .u8 (a5/256%256),.int .u8 (a5%256)] 5)
       refine wpList_app_bytes rfl (.tmp 41) (.tmp 53) rfl w.heap.size _ _ rfl hO1 _ 4 _ (wordB a5) rfl rfl (Src.new _ _ _ _ rfl _ (by rw[wordB_cells])) (by rw[HOL.out 5 (by omega),wordB_len];omega) hb1.size fun v' w5 hO5 hg5 hat5=>?_
       have hb5:=below_of_grown hb1 hg5 (fun q hq=>(hO.lt q hq).1);replace hO5:=(HOS.out 5 (by omega)) ▸ hO5;obtain⟨A5,c5,rfl,_⟩:=hO5.form;rw[HOL.out (5+1) (by omega)]at hO5⊢;clear hO hb hO1 hb1 hg5 hat5;go_wp2_with fail
       go_roundw
       case rel=>exact⟨6,_,c5,A5,rfl,by go_num,by omega,rfl,hO5,hb5⟩
       case measure=>simp[intOf]
      ·have X0:=run_index8u wr #[.int .u32 a0,.int .u32 a1,.int .u32 a2,.int .u32 a3,.int .u32 a4,.int .u32 a5,.int .u32 a6,.int .u32 a7] 6 (.int .u32 a6) 6 rfl (by omega) rfl;go_wp2_with (at_builtin;refine stop_in ?_)
       unfold Stopped
       clear X0;have hO1:=hO.alloc (.cells #[.int .u8 (a6/16777216%256),.int .u8 (a6/65536%256),.int .u8 (a6/256%256),.int .u8 (a6%256)] 5);have hb1:=hb.alloc hb.size (.cells #[.int .u8 (a6/16777216%256),.int .u8 (a6/65536%256),.int .u8 (a6/256%256),.int .u8 (a6%256)] 5)
       refine wpList_app_bytes rfl (.tmp 41) (.tmp 53) rfl w.heap.size _ _ rfl hO1 _ 4 _ (wordB a6) rfl rfl (Src.new _ _ _ _ rfl _ (by rw[wordB_cells])) (by rw[HOL.out 6 (by omega),wordB_len];omega) hb1.size fun v' w5 hO5 hg5 hat5=>?_
       have hb5:=below_of_grown hb1 hg5 (fun q hq=>(hO.lt q hq).1);replace hO5:=(HOS.out 6 (by omega)) ▸ hO5;obtain⟨A5,c5,rfl,_⟩:=hO5.form;rw[HOL.out (6+1) (by omega)]at hO5⊢;clear hO hb hO1 hb1 hg5 hat5;go_wp2_with fail
       go_roundw
       case rel=>exact⟨7,_,c5,A5,rfl,by go_num,by omega,rfl,hO5,hb5⟩
       case measure=>simp[intOf]
      ·have X0:=run_index8u wr #[.int .u32 a0,.int .u32 a1,.int .u32 a2,.int .u32 a3,.int .u32 a4,.int .u32 a5,.int .u32 a6,.int .u32 a7] 7 (.int .u32 a7) 7 rfl (by omega) rfl;go_wp2_with (at_builtin;refine stop_in ?_)
       unfold Stopped
       clear X0;have hO1:=hO.alloc (.cells #[.int .u8 (a7/16777216%256),.int .u8 (a7/65536%256),.int .u8 (a7/256%256),.int .u8 (a7%256)] 5);have hb1:=hb.alloc hb.size (.cells #[.int .u8 (a7/16777216%256),.int .u8 (a7/65536%256),.int .u8 (a7/256%256),.int .u8 (a7%256)] 5)
       refine wpList_app_bytes rfl (.tmp 41) (.tmp 53) rfl w.heap.size _ _ rfl hO1 _ 4 _ (wordB a7) rfl rfl (Src.new _ _ _ _ rfl _ (by rw[wordB_cells])) (by rw[HOL.out 7 (by omega),wordB_len];omega) hb1.size fun v' w5 hO5 hg5 hat5=>?_
       have hb5:=below_of_grown hb1 hg5 (fun q hq=>(hO.lt q hq).1);replace hO5:=(HOS.out 7 (by omega)) ▸ hO5;obtain⟨A5,c5,rfl,_⟩:=hO5.form;rw[HOL.out (7+1) (by omega)]at hO5⊢;clear hO hb hO1 hb1 hg5 hat5;go_wp2_with fail
       go_roundw
       case rel=>exact⟨8,_,c5,A5,rfl,by go_num,by omega,rfl,hO5,hb5⟩
       case measure=>simp[intOf]
      ·rw[HSH.out]at hO;go_wp2_with fail
       go_ret
       exact⟨_,rfl,by have h:=hO.form;obtain⟨_,_,e,_⟩:=h;exact⟨hO,hb⟩⟩
end Go.Proofs.YtgcjjhibdbafmaaGreatDoor
namespace Go.Proofs.YtgcjjhibdbafmaaGreatDoor
theorem num_cmp:∀ (k:Nat) (x y:List Nat),W64 x→W64 y→k<x.length→k<y.length→x.drop (k+1)=y.drop (k+1)→getN x k≠getN y k→(num x<num y↔getN x k<getN y k)
 | _,[],_,_,_,h,_,_,_=>by simp at h
 | _,_::_,[],_,_,_,h,_,_=>by simp at h
 | 0,a::x,b::y,hx,hy,_,_,hd,hne=>by
  have e:x=y:=by simpa using hd
  have h1:a<18446744073709551616:=hx a (by simp);have h2:b<18446744073709551616:=hy b (by simp);subst e;have e1:num (a::x)=a+18446744073709551616*num x:=rfl;have e2:num (b::x)=b+18446744073709551616*num x:=rfl;have e3:getN (a::x) 0=a:=rfl;have e4:getN (b::x) 0=b:=rfl;rw[e1,e2,e3,e4]
  omega
 | k+1,a::x,b::y,hx,hy,hkx,hky,hd,hne=>by
  have g1:getN (a::x) (k+1)=getN x k:=rfl;have g2:getN (b::y) (k+1)=getN y k:=rfl;rw[g1,g2]at hne⊢;have hx':W64 x:=fun c hc=>hx c (by simp[hc])
  have hy':W64 y:=fun c hc=>hy c (by simp[hc])
  have i1:=num_cmp k x y hx' hy' (by simpa using hkx) (by simpa using hky) (by simpa using hd) hne;have i2:=num_cmp k y x hy' hx' (by simpa using hky) (by simpa using hkx) (by simpa using hd.symm) (Ne.symm hne);have h1:a<18446744073709551616:=hx a (by simp);have h2:b<18446744073709551616:=hy b (by simp);have e1:num (a::x)=a+18446744073709551616*num x:=rfl;have e2:num (b::y)=b+18446744073709551616*num y:=rfl;rw[e1,e2]
  omega
theorem pow_le_of {a k n B:Nat}(h:k≤n) (hn:a ^ n<B) (hk:0<k):a ^ k<B:=by
 rcases Nat.eq_zero_or_pos a with h0 | h0
 ·subst h0;rw[Nat.zero_pow (show 0<n by omega)]at hn;rw[Nat.zero_pow hk]
  exact hn
 ·exact Nat.lt_of_le_of_lt (Nat.pow_le_pow_right h0 h) hn
theorem list4n {α:Type}{l:List α}(h:l.length=4):∃ a b c d,l=[a,b,c,d]:=by
 match l,h with
 | [a,b,c,d],_=>exact⟨a,b,c,d,rfl⟩
end Go.Proofs.YtgcjjhibdbafmaaGreatDoor
namespace Go.Proofs.YtgcjjhibdbafmaaGreatDoor
theorem root_bnd {p n N:Nat}(hn:n=2∨n=3) (hp:p<1000) (h:N ^ n≤p*18446744073709551616 ^ n):N<32*18446744073709551616:=by
 apply Nat.lt_of_not_le
 intro hN
 have h1:=Nat.pow_le_pow_left hN n;have h2:(32*18446744073709551616) ^ n=32 ^ n*18446744073709551616 ^ n:=Nat.mul_pow _ _ _
 have h3:p*18446744073709551616 ^ n<32 ^ n*18446744073709551616 ^ n:=by
  apply Nat.mul_lt_mul_of_pos_right
  ·rcases hn with rfl | rfl <;> omega
  ·exact Nat.pow_pos (by decide)
 omega
theorem pow_small {n N:Nat}(hn:n=2∨n=3) (h:N≤34*18446744073709551616):N ^ n<18446744073709551616 ^ 4:=by
 have h1:=Nat.pow_le_pow_left h n;have h2:(34*18446744073709551616) ^ n<18446744073709551616 ^ 4:=by rcases hn with rfl | rfl <;> decide
 omega
theorem root_low {p n N:Nat}(hp:1≤p) (h:p*18446744073709551616 ^ n<N ^ n):18446744073709551616<N:=by
 apply Nat.lt_of_not_le
 intro hN
 have h1:=Nat.pow_le_pow_left hN n;have h2:1*18446744073709551616 ^ n≤p*18446744073709551616 ^ n:=Nat.mul_le_mul_right _ hp
 omega
theorem frac_of {n p c N:Nat}(hn:n=2∨n=3) (hc:c<18446744073709551616) (hf:isFrac n p c=true) (h1:N ^ n≤p*18446744073709551616 ^ n) (h2:p*18446744073709551616 ^ n<(N+1) ^ n):N%18446744073709551616=c:=by
 unfold isFrac at hf
 rw[List.any_eq_true]at hf;obtain⟨w,_,hw⟩:=hf
 simp only[Bool.and_eq_true,decide_eq_true_eq]at hw
 have e:=root_unique (by omega) h1 h2 hw.1 hw.2;rw[e]
 omega
end Go.Proofs.YtgcjjhibdbafmaaGreatDoor
namespace Go.Proofs.YtgcjjhibdbafmaaGreatDoor
def stepP (l:List Nat) (p:Nat):List Nat:=if l.all (fun q=>p%q != 0) then l++[p] else l
def uptoP:Nat→List Nat
 | 0=>[]
 | k+1=>stepP (uptoP k) (k+2)
theorem stepP_len (l:List Nat) (p:Nat):l.length≤(stepP l p).length∧(stepP l p).length≤l.length+1:=by
 unfold stepP
 split <;> simp
theorem uptoP_mono (a:Nat):∀ d,(uptoP a).length≤(uptoP (a+d)).length
 | 0=>Nat.le_refl _
 | d+1=>Nat.le_trans (uptoP_mono a d) (stepP_len _ _).1
theorem uptoP_309:(uptoP 309).length=63:=by kernel_rfl
theorem uptoP_310:uptoP 310=primesN.take 64:=by kernel_rfl
theorem uptoP_go {k:Nat}(h:(uptoP k).length<64):k≤309:=by
 apply Nat.le_of_not_lt
 intro hk
 have h1:=uptoP_mono 310 (k-310);rw[show 310+(k-310)=k by omega,uptoP_310]at h1;have h2:(primesN.take 64).length=64:=rfl
 omega
theorem uptoP_stop {k:Nat}(h1:k≤310) (h2:¬ (uptoP k).length<64):uptoP k=primesN.take 64:=by
 have h3:k=310:=by
  rcases Nat.lt_or_ge k 310 with h | h
  ·have h4:=uptoP_mono k (309-k);rw[show k+(309-k)=309 by omega,uptoP_309]at h4
   omega
  ·omega
 rw[h3,uptoP_310]
theorem uptoP_pos:∀ k,∀ q∈uptoP k,2≤q∧q≤k+1
 | 0,q,h=>by simp[uptoP]at h
 | k+1,q,h=>by
  have ih:=uptoP_pos k q;rw[uptoP,stepP]at h
  split at h
  ·rw[List.mem_append]at h
   rcases h with h | h
   ·have:=ih h;omega
   ·simp at h;omega
  ·have:=ih h;omega
theorem all_take_succ {α:Type}(f:α→Bool) (l:List α) (j:Nat) (hj:j<l.length):(l.take (j+1)).all f=((l.take j).all f&&f l[j]):=by
 rw[List.take_succ_eq_append_getElem hj,List.all_append]
 simp
theorem stepP_yes {l:List Nat}{p:Nat}(h:l.all (fun q=>p%q != 0)=true):stepP l p=l++[p]:=if_pos h
theorem stepP_no {l:List Nat}{p:Nat}(h:l.all (fun q=>p%q != 0)=false):stepP l p=l:=if_neg (by rw[h];decide)
end Go.Proofs.YtgcjjhibdbafmaaGreatDoor
namespace Go.Proofs.YtgcjjhibdbafmaaGreatDoor
open Go.RowKit
theorem and_mask32 (x:Nat) (hx:x<18446744073709551616):bits .and .u64 (x:Int) 4294967295=((x%4294967296:Nat):Int):=by
 have h1:(BitVec.ofInt 64 (x:Int)).toNat=x:=by
  rw[BitVec.ofInt_natCast,BitVec.toNat_ofNat];exact Nat.mod_eq_of_lt (by omega)
 have h2:(BitVec.ofInt 64 (4294967295:Int)).toNat=4294967295:=by decide
 show IntKind.u64.wrap ((BitVec.ofInt 64 (x:Int) &&& BitVec.ofInt 64 4294967295).toNat:Int)=_
 have h3:x &&& 4294967295=x%4294967296:=by
  have:=Nat.and_two_pow_sub_one_eq_mod x 32
  simpa using this
 rw[BitVec.toNat_and,h1,h2,h3,IntKind.wrap_u64]
 omega
theorem wrap64_in (n:Nat) (h:n<18446744073709551616):IntKind.u64.wrap (n:Int)=(n:Int):=IntWalk.u64_in _ (by omega)
theorem bits_Mul64 (x y:Nat) (hx:x<18446744073709551616) (hy:y<18446744073709551616) (w:World) :
  Calls Tryz.prog 167 #[.int .u64 (x:Int),.int .u64 (y:Int)] w fun e w' =>
   e=.returned (.tuple #[.int .u64 ((x*y/18446744073709551616:Nat):Int),.int .u64 ((x*y%18446744073709551616:Nat):Int)])∧w=w':=by
 obtain⟨l1,l2,l3,l4⟩:=Lib.mul64_hi x y hx hy;have A1:bits .and .u64 (x:Int) 4294967295=((x%4294967296:Nat):Int):=and_mask32 x hx;have A2:bits .and .u64 (y:Int) 4294967295=((y%4294967296:Nat):Int):=and_mask32 y hy;have D1:(x:Int)/4294967296=((x/4294967296:Nat):Int):=by omega
 have D2:(y:Int)/4294967296=((y/4294967296:Nat):Int):=by omega
 have hlo:IntKind.u64.wrap ((x:Int)*(y:Int))=((x*y%18446744073709551616:Nat):Int):=by rw[IntKind.wrap_u64,← Int.natCast_mul];omega
 have hm1:=Lib.half_mul_le (a:=x/4294967296) (b:=y%4294967296) (by omega) (by omega);have hm2:=Lib.half_mul_le (a:=x%4294967296) (b:=y/4294967296) (by omega) (by omega);have hm3:=Lib.half_mul_le (a:=x/4294967296) (b:=y/4294967296) (by omega) (by omega);obtain⟨lo,hlon⟩:∃ n,x*y%18446744073709551616=n:=⟨_,rfl⟩
 obtain⟨hi,hhin⟩:∃ n,x*y/18446744073709551616=n:=⟨_,rfl⟩
 have hhi:hi<18446744073709551616:=by
  rw[← hhin];have:=Nat.mul_le_mul (show x≤18446744073709551615 by omega) (show y≤18446744073709551615 by omega)
  omega
 rw[hlon]at hlo;rw[hlon,hhin];rw[hhin]at l4;obtain⟨x0,hx0⟩:∃ n,x%4294967296=n:=⟨_,rfl⟩
 obtain⟨x1,hx1⟩:∃ n,x/4294967296=n:=⟨_,rfl⟩
 obtain⟨y0,hy0⟩:∃ n,y%4294967296=n:=⟨_,rfl⟩
 obtain⟨y1,hy1⟩:∃ n,y/4294967296=n:=⟨_,rfl⟩
 rw[hx0]at A1 l1 l2 l3 l4 hm2;rw[hx1]at D1 l2 l3 l4 hm1 hm3;rw[hy0]at A2 l1 l2 l3 l4 hm1;rw[hy1]at D2 l3 l4 hm2 hm3;obtain⟨w0,hw0⟩:∃ n,x0*y0=n:=⟨_,rfl⟩
 obtain⟨p1,hp1⟩:∃ n,x1*y0=n:=⟨_,rfl⟩
 obtain⟨p2,hp2⟩:∃ n,x0*y1=n:=⟨_,rfl⟩
 obtain⟨p3,hp3⟩:∃ n,x1*y1=n:=⟨_,rfl⟩
 rw[hw0]at l1 l2 l3 l4;rw[hp1]at l2 l3 l4 hm1;rw[hp2]at l3 l4 hm2;rw[hp3]at l4 hm3;have M0:IntKind.u64.wrap ((x0:Int)*(y0:Int))=(w0:Int):=by rw[← Int.natCast_mul,hw0];exact wrap64_in _ l1
 have M1:IntKind.u64.wrap ((x1:Int)*(y0:Int))=(p1:Int):=by rw[← Int.natCast_mul,hp1];exact wrap64_in _ (by omega)
 have M2:IntKind.u64.wrap ((x0:Int)*(y1:Int))=(p2:Int):=by rw[← Int.natCast_mul,hp2];exact wrap64_in _ (by omega)
 have M3:IntKind.u64.wrap ((x1:Int)*(y1:Int))=(p3:Int):=by rw[← Int.natCast_mul,hp3];exact wrap64_in _ (by omega)
 clear hx0 hx1 hy0 hy1 hw0 hp1 hp2 hp3 hm1 hm2 hlon hhin;obtain⟨q0,hq0⟩:∃ n,w0/4294967296=n:=⟨_,rfl⟩
 have D3:(w0:Int)/4294967296=(q0:Int):=by omega
 rw[hq0]at l2 l3 l4;obtain⟨t,ht⟩:∃ n,p1+q0=n:=⟨_,rfl⟩
 rw[ht]at l2 l3 l4;have S1:IntKind.u64.wrap ((p1:Int)+(q0:Int))=(t:Int):=by rw[← Int.natCast_add,ht];exact wrap64_in _ l2
 have A3:=and_mask32 t l2;obtain⟨w1,hw1⟩:∃ n,t%4294967296=n:=⟨_,rfl⟩
 obtain⟨w2,hw2⟩:∃ n,t/4294967296=n:=⟨_,rfl⟩
 have D4:(t:Int)/4294967296=(w2:Int):=by omega
 rw[hw1]at A3 l3 l4;rw[hw2]at l4;obtain⟨v,hv⟩:∃ n,w1+p2=n:=⟨_,rfl⟩
 rw[hv]at l3 l4;have S2:IntKind.u64.wrap ((w1:Int)+(p2:Int))=(v:Int):=by rw[← Int.natCast_add,hv];exact wrap64_in _ l3
 obtain⟨q1,hq1⟩:∃ n,v/4294967296=n:=⟨_,rfl⟩
 have D5:(v:Int)/4294967296=(q1:Int):=by omega
 rw[hq1]at l4;obtain⟨p4,hp4⟩:∃ n,p3+w2=n:=⟨_,rfl⟩
 rw[hp4]at l4;have S3:IntKind.u64.wrap ((p3:Int)+(w2:Int))=(p4:Int):=by rw[← Int.natCast_add,hp4];exact wrap64_in _ (by omega)
 have S4:IntKind.u64.wrap ((p4:Int)+(q1:Int))=(hi:Int):=by rw[← Int.natCast_add,l4];exact wrap64_in _ hhi
 clear hq0 ht hw1 hw2 hv hq1 hp4 l1 l2 l3 l4 hm3 hhi hx hy;go_enter Tryz.func167,Tryz.ntmps167
 go_wp2_with fail
 go_ret2
 exact⟨rfl,rfl⟩
open Extern.MathBitsCarry in
theorem run_add64 (x y c:Nat) (hc:c≤1) (w:World):(callFunc 162 #[.int .u64 (x:Int),.int .u64 (y:Int),.int .u64 (c:Int)]).run Tryz.prog w =
  .ok (.value (.tuple #[.int .u64 (((x+y+c)%18446744073709551616:Nat):Int),.int .u64 (((x+y+c)/18446744073709551616:Nat):Int)])) w:=by
 rw[run_callFunc_extern Tryz.func162 (by kernel_rfl) (by kernel_rfl) (by kernel_rfl) (e:=fun args=>do
  let (x, y, c) ← three "Add64" args
  pure (pair ((x+y+c)%m64) ((x+y+c)/m64))) (by kernel_rfl)]
 rcases(show c=0∨c=1 by omega) with rfl | rfl
 ·rfl
 ·rfl
open Extern.MathBitsCarry in
theorem run_sub64 (x y c:Nat) (hc:c≤1) (w:World):(callFunc 161 #[.int .u64 (x:Int),.int .u64 (y:Int),.int .u64 (c:Int)]).run Tryz.prog w =
  .ok (.value (.tuple #[.int .u64 (((x+18446744073709551616-y-c)%18446744073709551616:Nat):Int),.int .u64 ((if x<y+c then 1 else 0:Nat):Int)])) w:=by
 rw[run_callFunc_extern Tryz.func161 (by kernel_rfl) (by kernel_rfl) (by kernel_rfl) (e:=fun args=>do
  let (x, y, b) ← three "Sub64" args
  pure (pair ((x+m64-y-b)%m64) (if x<y+b then 1 else 0))) (by kernel_rfl)]
 rcases(show c=0∨c=1 by omega) with rfl | rfl
 ·rfl
 ·rfl
end Go.Proofs.YtgcjjhibdbafmaaGreatDoor
