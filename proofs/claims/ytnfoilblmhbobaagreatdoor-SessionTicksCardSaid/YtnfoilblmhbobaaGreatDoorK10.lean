/- squeezed. SHA-256: the reference's constants -/
import Derived.Test.YtnfoilblmhbobaaGreatDoorK09
import Derived.Great.BuildSlice
import Derived.Test.YtnfoilblmhbobaaGreatDoorK08
set_option linter.unusedVariables false
set_option linter.unusedSimpArgs false
set_option maxRecDepth 100000
set_option maxHeartbeats 3200000
namespace Go.Proofs.YtnfoilblmhbobaaGreatDoor
open Go.RowKit
def vA (l:List Int):Array Value:=(l.map (Value.int .u64)).toArray
theorem rV (l:List Int):(vA l).size=l.length:=by simp[vA]
theorem mL (l:List Int) (i:Nat) (h:i<l.length):(vA l)[i]? = some (.int .u64 (yb l i)):=by
 simp[vA,yb,h]
theorem qH (l:List Int):(vA l).all (·.oneCell')=true:=by simp[vA,Value.oneCell']
def wY:List Int:=[4794697086780616226,8158064640168781261,13096744586834688815,16840607885511220156,4131703408338449720,6480981068601479193,10538285296894168987,12329834152419229976,15566598209576043074,1334009975649890238,2608012711638119052,6128411473006802146,8268148722764581231,9286055187155687089,11230858885718282805,13951009754708518548,16472876342353939154,17275323862435702243,1135362057144423861,2597628984639134821,3308224258029322869,5365058923640841347,6679025012923562964,8573033837759648693,10970295158949994411,12119686244451234320,12683024718118986047,13788192230050041572,14330467153632333762,15395433587784984357,489312712824947311,1452737877330783856,2861767655752347644,3322285676063803686,5560940570517711597,5996557281743188959,7280758554555802590,8532644243296465576,9350256976987008742,10552545826968843579,11727347734174303076,12113106623233404929,14000437183269869457,14369950271660146224,15101387698204529176,15463397548674623760,17586052441742319658,1182934255886127544,1847814050463011016,2177327727835720531,2830643537854262169,3796741975233480872,4115178125766777443,5681478168544905931,6601373596472566643,7507060721942968483,8399075790359081724,8693463985226723168,9568029438360202098,10144078919501101548,10430055236837252648,11840083180663258601,13761210420658862357,14299343276471374635,14566680578165727644,15097957966210449927,16922976911328602910,17689382322260857208,500013540394364858,748580250866718886,1242879168328830382,1977374033974150939,2944078676154940804,3659926193048069267,4368137639120453308,4836135668995329356,5532061633213252278,6448918945643986474,6902733635092675308,7801388544844847127]
def vu:List Int:=[7640891576956012808,13503953896175478587,4354685564936845355,11912009170470909681,5840696475078001361,11170449401992604703,2270897969802886507,6620516959819538809]
theorem vF:wY.length=80:=rfl
theorem lC:vu.length=8:=rfl
def yH (x:Int):Int:=IntKind.u32.wrap (x/4294967296)
def yn:List Int:=wY.map yH
theorem nA (k:Nat) (h:k<80):yb yn k=yH (yb wY k):=by
 have h1:k<wY.length:=by rw[vF];exact h
 unfold yb yn
 rw[List.getD_eq_getElem?_getD,List.getD_eq_getElem?_getD,List.getElem?_map,List.getElem?_eq_getElem h1];rfl
theorem qL:(Tryz.prog.info? 138).map (·.size)=some 80:=by kernel_rfl
theorem jk {P:Program}{ops:Array Oper}{Q:Exit→Act→World→Prop}{rest:List Oper}{a:Act}{w:World}{dst:Option Tmp}{ty:TypeId}{ps:Array (Nat×Operand)}{T:TypeId}{pos:String}{af:Array Edge}{g:Option (Nat×Bool)}
  (h:zj (wpList P ops Q (⟨dst,.build ty ps,T,pos,af,g⟩::rest) a w)):wpList P ops Q (⟨dst,.build ty ps,T,pos,af,g⟩::rest) a w:=h
theorem pC (w:World):Calls Tryz.prog 87 #[] w fun e w'=>e=.returned (.agg (vA wY))∧Below w.heap.size w w':=by
 have hB:=Blk.new w 138 (vA (List.replicate 80 0));have hb:=zb w (.cells (vA (List.replicate 80 0)) 138);go_enter Tryz.func87,Tryz.ntmps87
 go_wp2_with (with_reducible refine jk ?_)
 refine wpList_buildTo rfl _ _ rfl _ rfl (vA wY) (by kernel_rfl) ?_
 go_wp2_with (with_reducible refine zx ?_)
 refine zr rfl _ _ _ rfl rfl w.heap.size (vA wY) rfl rfl _ _ hB qL (by simp[rV,vF]) (qH _) fun w2 xO us=>?_
 go_wp2_with fail
 refine wd rfl rfl xO rfl rfl qL rfl ?_
 exact⟨rfl,hb.grown us hb.size (by rintro q ⟨⟩;exact Nat.le_refl _)⟩
theorem nF {H:Snap}{b off c:Nat}{bs:List UInt8}(hb:IsBytes H (some ⟨b,off,none⟩) c bs) (hl:bs.length=64) (h0:S8) (w:World) (hH:Holds w H) :
  Calls Tryz.prog 81 #[.agg h0.cells,.slice (some ⟨b,off,none⟩) 64 c] w fun e w'=>e=.returned (.agg (wA yn h0 bs).cells)∧Below w.heap.size w w':=by
 have HB:=Hh hb;have HL:=Hh hl;have ol:=Blk.new w 127 h0.cells;have rN:=Blk.new (w.alloc (.cells h0.cells 127)) 127 (yX (List.replicate 8 0));rw[zY]at rN;have yY:=zb w (.cells h0.cells 127);have zd:=yY.alloc yY.size (.cells (yX (List.replicate 8 0)) 127);replace ol:=ol.alloc (.cells (yX (List.replicate 8 0)) 127);go_enter Tryz.func81,Tryz.ntmps81
 go_wp2_with fail
 refine(pC _).mono ?_
 rintro e w2 ⟨rfl,zO⟩
 have hC:=Blk.new w2 138 (vA (List.replicate 80 0));have xO:=(ol.below zO).alloc (.cells (vA (List.replicate 80 0)) 138);have fW:=(rN.below zO).alloc (.cells (vA (List.replicate 80 0)) 138);have t9:=(zd.trans (zO.mono zd.size)).alloc (Nat.le_trans zd.size zO.size) (.cells (vA (List.replicate 80 0)) 138);have Vg:=(rN.below zO).lt;obtain⟨kg,Vd⟩:∃ kg,w2.heap.size=kg:=⟨_,rfl⟩
 obtain⟨hg,VY⟩:∃ hg,w.heap.size=hg:=⟨_,rfl⟩
 rw[Vd]at hC Vg;rw[VY]at xO fW Vg;have WA:=Hh (And.intro Vd VY);clear zO yY zd ol rN hb hl;have VT:=t9.size;have SJ:=hC;clear Vd VY;go_wp2_with (with_reducible refine zx ?_)
 unfold zj
 rw[WA.out.1,WA.out.2]
 refine zr rfl _ _ _ rfl rfl kg (vA wY) rfl rfl _ _ hC qL (by simp[rV,vF]) (qH _) fun wq hKb hgq=>?_
 have hh:=xO.grown hgq (by intro hc;injection hc;omega);have hR:=fW.grown hgq (by intro hc;injection hc;omega);have cG:Below w.heap.size w wq:=t9.grown hgq t9.size (by rintro q ⟨⟩;have:=WA.out;omega);have HH:=Hh (hH.below cG (Nat.le_refl _));have HN:=Hh (Blk.new wq 126 (yX (zS bs 0)));have Rf:=Hh cG;have Uj:=Hh (show 64≤wY.length by rw[vF];omega);clear hC SJ hgq xO fW t9 hH VT cG Vg;go_wp2_with fail
 go_loopw [18] (fun v18 wr=>∃ k:Nat,v18=.int .i64 (k:Int)∧k≤64∧Blk wr wq.heap.size 126 (yX (zS bs k))∧Below wq.heap.size wq wr) (fun v18 _=>(64-intOf v18).toNat)
 case atStart=>exact⟨0,rfl,by omega,HN.out,zb _ _⟩
 case round =>
 obtain⟨k,rfl,kD,hW,tQ⟩:=hrel
 by_cases z6:(k:Int)<64
 ·by_cases V6:(k:Int)<16
  ·obtain⟨j0,iA⟩:∃ j,4*k=j:=⟨_,rfl⟩
   obtain⟨j1,cM⟩:∃ j,4*k+1=j:=⟨_,rfl⟩
   obtain⟨j2,aH⟩:∃ j,4*k+2=j:=⟨_,rfl⟩
   obtain⟨j3,fH⟩:∃ j,4*k+3=j:=⟨_,rfl⟩
   have W0:IntKind.i64.wrap (4*(k:Int))=(j0:Int):=by rw[← iA];exact IntWalk.i64_in _ (by omega)
   have W1:IntKind.i64.wrap ((j0:Int)+1)=(j1:Int):=by rw[← cM,← iA];exact IntWalk.i64_in _ (by omega)
   have W2:IntKind.i64.wrap ((j0:Int)+2)=(j2:Int):=by rw[← aH,← iA];exact IntWalk.i64_in _ (by omega)
   have W3:IntKind.i64.wrap ((j0:Int)+3)=(j3:Int):=by rw[← fH,← iA];exact IntWalk.i64_in _ (by omega)
   have l0:(j0:Int)<64:=by omega
   have l1:(j1:Int)<64:=by omega
   have l2:(j2:Int)<64:=by omega
   have l3:(j3:Int)<64:=by omega
   have b0:=xg HB.out j0 (by have:=HL.out;omega);have b1:=xg HB.out j1 (by have:=HL.out;omega);have b2:=xg HB.out j2 (by have:=HL.out;omega);have b3:=xg HB.out j3 (by have:=HL.out;omega);have HJ:=Hh (And.intro iA (And.intro cM (And.intro aH fH)));clear iA cM aH fH;have br:=Hh (HH.out.below tQ (Nat.le_refl _));have nl:=hW.drew;go_upto_region 7 with fail
   refine zp 35 (fun wx=>wx.cell? ⟨b,off+j0,none⟩=some (.int .u8 (xz bs j0))∧wx.cell? ⟨b,off+j1,none⟩=some (.int .u8 (xz bs j1))∧wx.cell? ⟨b,off+j2,none⟩=some (.int .u8 (xz bs j2))∧wx.cell? ⟨b,off+j3,none⟩=some (.int .u8 (xz bs j3))) (by kernel_rfl) (⟨br.out.drew.cell b0,br.out.drew.cell b1,br.out.drew.cell b2,br.out.drew.cell b3⟩) (fun zy=>?_)
   refine Tk 0 rfl zy ?_
   refine Tk 1 rfl zy ?_
   refine Tk 2 rfl zy ?_
   refine Tk 3 rfl zy ?_
   refine Tk 4 rfl zy ?_
   refine Tk 5 rfl zy ?_
   refine Tk 6 rfl zy ?_
   refine Tk 7 rfl zy ?_
   refine Tk 8 rfl zy ?_
   refine Tk 9 rfl zy ?_
   refine Tk 10 rfl zy ?_
   refine Tk 11 rfl zy ?_
   refine Tk 12 rfl zy ?_
   refine Tk 13 rfl zy ?_
   refine Tk 14 rfl zy ?_
   refine Tk 15 rfl zy ?_
   refine Tk 16 rfl zy ?_
   refine Tk 17 rfl zy ?_
   refine Tk 18 rfl zy ?_
   refine Tk 19 rfl zy ?_
   refine Tk 20 rfl zy ?_
   refine Tk 21 rfl zy ?_
   refine Tk 22 rfl zy ?_
   refine Tk 23 rfl zy ?_
   refine Tk 24 rfl zy ?_
   refine Tk 25 rfl zy ?_
   refine Tk 26 rfl zy ?_
   refine Tk 27 rfl zy ?_
   refine Tk 28 rfl zy ?_
   refine Tk 29 rfl zy ?_
   refine Tk 30 rfl zy ?_
   refine Tk 31 rfl zy ?_
   refine Tk 32 rfl zy ?_
   refine Tk 33 rfl zy ?_
   refine Tk 34 rfl zy ?_
   refine To 35 rfl fun K hK=>?_
   rw[if_pos (by rfl)]
   refine zZ _ _ _ rfl wq.heap.size k (.int .u32 (ij (xz bs j0) (xz bs j1) (xz bs j2) (xz bs j3))) rfl rfl _ _ nl xC (by rw[xc,z9];omega) rfl fun w9 hW9 hg9=>?_
   refine Kz hK ?_
   clear hK K
   refine Wd ?_
   clear zy;have cv:Below wq.heap.size wq w9:=tQ.drew.grown hg9 tQ.size (by rintro q ⟨⟩;exact Nat.le_refl _)
   have aA:Blk w9 wq.heap.size 126 (yX (zS bs (k+1))):=by
    obtain⟨rfl,rfl,rfl,rfl⟩:=HJ.out;rw[oP _ _ (by omega)]at hW9
    exact hW9
   clear hW9 hg9 nl;go_wp2_with fail
   go_roundw
   case rel=>exact⟨k+1,by go_num,by omega,aA,cv⟩
   case measure=>simp[intOf];omega
  have Ud:16≤k:=by omega
  obtain⟨a15,k7⟩:∃ j,k-15=j:=⟨_,rfl⟩
  obtain⟨a2,qc⟩:∃ j,k-2=j:=⟨_,rfl⟩
  obtain⟨a7,aE⟩:∃ j,k-7=j:=⟨_,rfl⟩
  obtain⟨a16,k8⟩:∃ j,k-16=j:=⟨_,rfl⟩
  have W15:IntKind.i64.wrap ((k:Int)-15)=(a15:Int):=by rw[← k7,show((k-15:Nat):Int)=(k:Int)-15 by omega];exact IntWalk.i64_in _ (by omega)
  have W2:IntKind.i64.wrap ((k:Int)-2)=(a2:Int):=by rw[← qc,show((k-2:Nat):Int)=(k:Int)-2 by omega];exact IntWalk.i64_in _ (by omega)
  have W7:IntKind.i64.wrap ((k:Int)-7)=(a7:Int):=by rw[← aE,show((k-7:Nat):Int)=(k:Int)-7 by omega];exact IntWalk.i64_in _ (by omega)
  have W16:IntKind.i64.wrap ((k:Int)-16)=(a16:Int):=by rw[← k8,show((k-16:Nat):Int)=(k:Int)-16 by omega];exact IntWalk.i64_in _ (by omega)
  have l15:(a15:Int)<64:=by omega
  have l2:(a2:Int)<64:=by omega
  have l7:(a7:Int)<64:=by omega
  have l16:(a16:Int)<64:=by omega
  have nl:=hW.drew;have b15:=nl.cell a15 (yQ _ _ (by rw[z9];omega));have b2:=nl.cell a2 (yQ _ _ (by rw[z9];omega));have b7:=nl.cell a7 (yQ _ _ (by rw[z9];omega));have b16:=nl.cell a16 (yQ _ _ (by rw[z9];omega));have HJ:=Hh (And.intro k7 (And.intro qc (And.intro aE k8)));obtain⟨x15,kM⟩:∃ x,yb (zS bs k) a15=x:=⟨_,rfl⟩
  obtain⟨x2,o2⟩:∃ x,yb (zS bs k) a2=x:=⟨_,rfl⟩
  obtain⟨x7,aU⟩:∃ x,yb (zS bs k) a7=x:=⟨_,rfl⟩
  obtain⟨x16,kN⟩:∃ x,yb (zS bs k) a16=x:=⟨_,rfl⟩
  rw[kM]at b15;rw[o2]at b2;rw[aU]at b7;rw[kN]at b16;have HX:=Hh (And.intro kM (And.intro o2 (And.intro aU kN)));clear k7 qc aE k8 kM o2 aU kN;go_upto_region 8 with fail
  refine zp 10 (fun wx=>wx.cell? ⟨wq.heap.size,a15,none⟩=some (.int .u32 x15)∧wx.cell? ⟨wq.heap.size,a2,none⟩=some (.int .u32 x2)) (by kernel_rfl) (⟨b15,b2⟩) (fun zy=>?_)
  refine TkS 0 rfl zy ?_
  refine TkS 1 rfl zy ?_
  refine TkS 2 rfl zy ?_
  refine TkS 3 rfl zy ?_
  refine TkS 4 rfl zy ?_
  refine TkS 5 rfl zy ?_
  refine TkS 6 rfl zy ?_
  refine TkS 7 rfl zy ?_
  refine TkS 8 rfl zy ?_
  refine TkS 9 rfl zy ?_
  refine Wd ?_
  clear zy;go_upto_region 9 with fail
  refine zp 29 (fun wx=>wx.cell? ⟨wq.heap.size,a7,none⟩=some (.int .u32 x7)∧wx.cell? ⟨wq.heap.size,a16,none⟩=some (.int .u32 x16)) (by kernel_rfl) (⟨b7,b16⟩) (fun zy=>?_)
  refine Tk 0 rfl zy ?_
  refine Tk 1 rfl zy ?_
  refine Tk 3 rfl zy ?_
  refine Tk 6 rfl zy ?_
  refine Tk 7 rfl zy ?_
  refine Tk 9 rfl zy ?_
  refine Tk 10 rfl zy ?_
  refine Tk 11 rfl zy ?_
  refine Tk 12 rfl zy ?_
  refine Tk 14 rfl zy ?_
  refine Tk 16 rfl zy ?_
  refine Tk 19 rfl zy ?_
  refine Tk 20 rfl zy ?_
  refine Tk 23 rfl zy ?_
  refine Tk 24 rfl zy ?_
  refine Tk 25 rfl zy ?_
  refine Tk 26 rfl zy ?_
  refine To 2 rfl fun K hK=>?_
  go_simp
  refine(gO _ _).mono ?_
  rintro e w5 ⟨rfl,rfl⟩
  clear zy
  refine hK.out _ _ (fun _=>?_) (fun zy=>?_)
  ·exact⟨b7,b16⟩
  clear hK K;replace zy:=zy (by decide)
  try simp only[Act.put,zz1,zz2,zz3,zz4,zz5,zz6]
  refine To 4 rfl fun K hK=>?_
  go_simp
  refine(gQ _ _).mono ?_
  rintro e w5 ⟨rfl,rfl⟩
  clear zy
  refine hK.out _ _ (fun _=>?_) (fun zy=>?_)
  ·exact⟨b7,b16⟩
  clear hK K;replace zy:=zy (by decide)
  try simp only[Act.put,zz1,zz2,zz3,zz4,zz5,zz6]
  refine Tk 5 rfl zy ?_
  refine Tk 8 rfl zy ?_
  refine Tk 13 rfl zy ?_
  refine To 15 rfl fun K hK=>?_
  go_simp
  refine(dg _ _).mono ?_
  rintro e w5 ⟨rfl,rfl⟩
  clear zy
  refine hK.out _ _ (fun _=>?_) (fun zy=>?_)
  ·exact⟨b7,b16⟩
  clear hK K;replace zy:=zy (by decide)
  try simp only[Act.put,zz1,zz2,zz3,zz4,zz5,zz6]
  refine To 17 rfl fun K hK=>?_
  go_simp
  refine(gP _ _).mono ?_
  rintro e w5 ⟨rfl,rfl⟩
  clear zy
  refine hK.out _ _ (fun _=>?_) (fun zy=>?_)
  ·exact⟨b7,b16⟩
  clear hK K;replace zy:=zy (by decide)
  try simp only[Act.put,zz1,zz2,zz3,zz4,zz5,zz6]
  refine Tk 18 rfl zy ?_
  refine Tk 21 rfl zy ?_
  refine Tk 22 rfl zy ?_
  refine Tk 27 rfl zy ?_
  refine Tk 28 rfl zy ?_
  refine To 29 rfl fun K hK=>?_
  rw[if_pos (by rfl)]
  refine zZ _ _ _ rfl wq.heap.size k (.int .u32 (bm x15 x2 x7 x16)) rfl rfl _ _ nl xC (by rw[xc,z9];omega) rfl fun w9 hW9 hg9=>?_
  refine Kz hK ?_
  clear hK K
  refine Wd ?_
  clear zy;have cv:Below wq.heap.size wq w9:=tQ.drew.drew.grown hg9 tQ.size (by rintro q ⟨⟩;exact Nat.le_refl _)
  have aA:Blk w9 wq.heap.size 126 (yX (zS bs (k+1))):=by
   obtain⟨rfl,rfl,rfl,rfl⟩:=HJ.out;obtain⟨rfl,rfl,rfl,rfl⟩:=HX.out;rw[oO _ _ (by omega)]at hW9
   exact hW9
  clear hW9 hg9 nl;go_wp2_with fail
  go_roundw
  case rel=>exact⟨k+1,by go_num,by omega,aA,cv⟩
  case measure=>simp[intOf];omega
 obtain rfl:k=64:=by omega
 rw[show((64:Nat):Int)=64 from rfl]at z6⊢;have rg:=hh.below tQ;have VI:=hKb.below tQ;have d0:wr.cell? ⟨hg,0,none⟩=some (.int .u32 h0.a):=rg.cell 0 rfl;have d1:wr.cell? ⟨hg,1,none⟩=some (.int .u32 h0.b):=rg.cell 1 rfl;have d2:wr.cell? ⟨hg,2,none⟩=some (.int .u32 h0.c):=rg.cell 2 rfl;have d3:wr.cell? ⟨hg,3,none⟩=some (.int .u32 h0.d):=rg.cell 3 rfl;have d4:wr.cell? ⟨hg,4,none⟩=some (.int .u32 h0.e):=rg.cell 4 rfl;have d5:wr.cell? ⟨hg,5,none⟩=some (.int .u32 h0.f):=rg.cell 5 rfl;have d6:wr.cell? ⟨hg,6,none⟩=some (.int .u32 h0.g):=rg.cell 6 rfl;have d7:wr.cell? ⟨hg,7,none⟩=some (.int .u32 h0.h):=rg.cell 7 rfl;have HZ:=Hh tQ.size;have Up:Hid (hg<wq.heap.size∧kg<wq.heap.size):=⟨hh.lt,hKb.lt⟩
 obtain⟨G,hG⟩:∃ G,wr.heap.size=G:=⟨_,rfl⟩
 have sS:=Hh (Blk.new wr 127 h0.cells);rw[hG]at sS;have sU:=hW.alloc (.cells h0.cells 127);have zO:=tQ.alloc tQ.size (.cells h0.cells 127);have HG:=Hh hG;have XX:Hid (wq.heap.size<G):=by have:=hW.lt;rw[Hid];omega
 clear HN z6 kD rg hG;go_wp2_with fail
 rw[HG.out];go_loopw [97] (fun v97 wx=>∃ k:Nat,v97=.int .i64 (k:Int)∧k≤64∧Blk wx G 127 (yI yn (zS bs 64) h0 k).cells∧Blk wx wq.heap.size 126 (yX (zS bs 64))∧Below wq.heap.size wq wx) (fun v97 _=>(64-intOf v97).toNat)
 case atStart=>exact⟨0,rfl,by omega,sS.out,sU,zO⟩
 case round =>
 clear sU zO sS d0 d1 d2 d3 d4 d5 d6 d7 hW VI;obtain⟨k,rfl,kD,hS,cF,nu⟩:=hrel
 by_cases z6:(k:Int)<64
 ·obtain⟨s,hs⟩:∃ s,yI yn (zS bs 64) h0 k=s:=⟨_,rfl⟩
  rw[hs]at hS;have Zt:=Hh hs;clear hs;have c0:wr.cell? ⟨G,0,none⟩=some (.int .u32 s.a):=hS.cell 0 rfl;have c1:wr.cell? ⟨G,1,none⟩=some (.int .u32 s.b):=hS.cell 1 rfl;have c2:wr.cell? ⟨G,2,none⟩=some (.int .u32 s.c):=hS.cell 2 rfl;have c3:wr.cell? ⟨G,3,none⟩=some (.int .u32 s.d):=hS.cell 3 rfl;have c4:wr.cell? ⟨G,4,none⟩=some (.int .u32 s.e):=hS.cell 4 rfl;have c5:wr.cell? ⟨G,5,none⟩=some (.int .u32 s.f):=hS.cell 5 rfl;have c6:wr.cell? ⟨G,6,none⟩=some (.int .u32 s.g):=hS.cell 6 rfl;have c7:wr.cell? ⟨G,7,none⟩=some (.int .u32 s.h):=hS.cell 7 rfl;have ck:=(hKb.below nu).cell k (mL _ _ (by have:=Uj.out;omega));have cw:=cF.cell k (yQ _ _ (by rw[z9];omega));have R6:(k:Int)<80:=by omega
  obtain⟨xk,dD⟩:∃ x,yb wY k=x:=⟨_,rfl⟩
  obtain⟨xw,n7⟩:∃ x,yb (zS bs 64) k=x:=⟨_,rfl⟩
  rw[dD]at ck;rw[n7]at cw;have HX:=Hh (And.intro dD n7);clear dD n7;go_upto_region 15 with fail
  refine zp 6 (fun wx=>wx.cell? ⟨G,0,none⟩=some (.int .u32 s.a)∧wx.cell? ⟨G,4,none⟩=some (.int .u32 s.e)) (by kernel_rfl) (⟨c0,c4⟩) (fun zy=>?_)
  refine TkS 0 rfl zy ?_
  refine TkS 1 rfl zy ?_
  refine TkS 2 rfl zy ?_
  refine TkS 3 rfl zy ?_
  refine TkS 4 rfl zy ?_
  refine TkS 5 rfl zy ?_
  refine Wd ?_
  clear zy;go_upto_region 16 with fail
  refine zp 33 (fun wx=>wx.cell? ⟨G,7,none⟩=some (.int .u32 s.h)∧wx.cell? ⟨G,5,none⟩=some (.int .u32 s.f)∧wx.cell? ⟨G,6,none⟩=some (.int .u32 s.g)∧wx.cell? ⟨kg,k,none⟩=some (.int .u64 xk)∧wx.cell? ⟨wq.heap.size,k,none⟩=some (.int .u32 xw)) (by kernel_rfl) (⟨c7,c5,c6,ck,cw⟩) (fun zy=>?_)
  refine TkS 0 rfl zy ?_
  refine TkS 1 rfl zy ?_
  refine TkS 2 rfl zy ?_
  refine TkS 4 rfl zy ?_
  refine TkS 7 rfl zy ?_
  refine TkS 11 rfl zy ?_
  refine TkS 12 rfl zy ?_
  refine TkS 13 rfl zy ?_
  refine TkS 14 rfl zy ?_
  refine TkS 15 rfl zy ?_
  refine TkS 16 rfl zy ?_
  refine TkS 17 rfl zy ?_
  refine TkS 18 rfl zy ?_
  refine TkS 19 rfl zy ?_
  refine TkS 20 rfl zy ?_
  refine TkS 22 rfl zy ?_
  refine TkS 23 rfl zy ?_
  refine TkS 24 rfl zy ?_
  refine TkS 25 rfl zy ?_
  refine TkS 26 rfl zy ?_
  refine TkS 28 rfl zy ?_
  refine TkS 29 rfl zy ?_
  refine TkS 30 rfl zy ?_
  refine To 3 rfl fun K hK=>?_
  go_simp
  refine(df _ _).mono ?_
  rintro e w5 ⟨rfl,rfl⟩
  clear zy
  refine hK.out _ _ (fun _=>?_) (fun zy=>?_)
  ·exact⟨c7,c5,c6,ck,cw⟩
  clear hK K;replace zy:=zy (by decide)
  try simp only[Act.put,zz1,zz2,zz3,zz4,zz5,zz6]
  refine To 5 rfl fun K hK=>?_
  go_simp
  refine(gM _ _).mono ?_
  rintro e w5 ⟨rfl,rfl⟩
  clear zy
  refine hK.out _ _ (fun _=>?_) (fun zy=>?_)
  ·exact⟨c7,c5,c6,ck,cw⟩
  clear hK K;replace zy:=zy (by decide)
  try simp only[Act.put,zz1,zz2,zz3,zz4,zz5,zz6]
  refine TkS 6 rfl zy ?_
  refine To 8 rfl fun K hK=>?_
  go_simp
  refine(gS _ _).mono ?_
  rintro e w5 ⟨rfl,rfl⟩
  clear zy
  refine hK.out _ _ (fun _=>?_) (fun zy=>?_)
  ·exact⟨c7,c5,c6,ck,cw⟩
  clear hK K;replace zy:=zy (by decide)
  try simp only[Act.put,zz1,zz2,zz3,zz4,zz5,zz6]
  refine TkS 9 rfl zy ?_
  refine TkS 10 rfl zy ?_
  refine TkS 21 rfl zy ?_
  refine TkS 27 rfl zy ?_
  refine TkS 31 rfl zy ?_
  refine TkS 32 rfl zy ?_
  refine Wd ?_
  clear zy;obtain⟨xu,Vy⟩:∃ x,IntKind.u32.wrap (xk/4294967296)=x:=⟨_,rfl⟩
  rw[Vy];have Rz:=Hh Vy;clear Vy;go_upto_region 17 with fail
  refine zp 25 (fun wx=>wx.cell? ⟨G,1,none⟩=some (.int .u32 s.b)∧wx.cell? ⟨G,2,none⟩=some (.int .u32 s.c)) (by kernel_rfl) (⟨c1,c2⟩) (fun zy=>?_)
  refine TkS 0 rfl zy ?_
  refine TkS 2 rfl zy ?_
  refine TkS 5 rfl zy ?_
  refine TkS 8 rfl zy ?_
  refine TkS 9 rfl zy ?_
  refine TkS 10 rfl zy ?_
  refine TkS 11 rfl zy ?_
  refine TkS 12 rfl zy ?_
  refine TkS 13 rfl zy ?_
  refine TkS 14 rfl zy ?_
  refine TkS 15 rfl zy ?_
  refine TkS 16 rfl zy ?_
  refine TkS 17 rfl zy ?_
  refine TkS 18 rfl zy ?_
  refine TkS 19 rfl zy ?_
  refine TkS 20 rfl zy ?_
  refine TkS 21 rfl zy ?_
  refine TkS 22 rfl zy ?_
  refine To 1 rfl fun K hK=>?_
  go_simp
  refine(de _ _).mono ?_
  rintro e w5 ⟨rfl,rfl⟩
  clear zy
  refine hK.out _ _ (fun _=>?_) (fun zy=>?_)
  ·exact⟨c1,c2⟩
  clear hK K;replace zy:=zy (by decide)
  try simp only[Act.put,zz1,zz2,zz3,zz4,zz5,zz6]
  refine To 3 rfl fun K hK=>?_
  go_simp
  refine(gN _ _).mono ?_
  rintro e w5 ⟨rfl,rfl⟩
  clear zy
  refine hK.out _ _ (fun _=>?_) (fun zy=>?_)
  ·exact⟨c1,c2⟩
  clear hK K;replace zy:=zy (by decide)
  try simp only[Act.put,zz1,zz2,zz3,zz4,zz5,zz6]
  refine TkS 4 rfl zy ?_
  refine To 6 rfl fun K hK=>?_
  go_simp
  refine(gR _ _).mono ?_
  rintro e w5 ⟨rfl,rfl⟩
  clear zy
  refine hK.out _ _ (fun _=>?_) (fun zy=>?_)
  ·exact⟨c1,c2⟩
  clear hK K;replace zy:=zy (by decide)
  try simp only[Act.put,zz1,zz2,zz3,zz4,zz5,zz6]
  refine TkS 7 rfl zy ?_
  refine TkS 23 rfl zy ?_
  refine TkS 24 rfl zy ?_
  refine Wd ?_
  clear zy;go_wp2_with (with_reducible refine zx ?_)
  refine zr rfl _ _ _ rfl rfl G (jr s xu xw).cells rfl rfl _ _ hS sJ rfl (S8.one _) fun w9 hS9 hg9=>?_
  have jx:Blk w9 G 127 (yI yn (zS bs 64) h0 (k+1)).cells:=by
   rw[yI,Zt.out,nA _ (by omega),yH,HX.out.1,HX.out.2,Rz.out]
   exact hS9
  have Xp:wq.heap.size<G:=XX.out;have ZW:=cF.drew.drew.drew.grown hg9 (by intro hc;injection hc;omega);have t6:=nu.drew.drew.drew.grown hg9 nu.size (by rintro q ⟨⟩;omega);clear hS9 hg9 hS cF c0 c1 c2 c3 c4 c5 c6 c7 ck cw nu Xp;go_wp2_with fail
  go_roundw
  case rel=>exact⟨k+1,by go_num,by omega,jx,ZW,t6⟩
  case measure=>simp[intOf];omega
 obtain rfl:k=64:=by omega
 rw[show((64:Nat):Int)=64 from rfl]at z6⊢;obtain⟨s,hs⟩:∃ s,yI yn (zS bs 64) h0 64=s:=⟨_,rfl⟩
 rw[hs]at hS;have Zt:=Hh hs;have am:=hh.below nu;have Xp:wq.heap.size<G:=XX.out;have Sj:hg<wq.heap.size:=Up.out.1;clear hs z6 kD hKb cF;go_wp2_with fail
 go_loopw [179] (fun v179 wx=>∃ k:Nat,v179=.int .i64 (k:Int)∧k≤8∧Blk wx hg 127 (yX (qu h0.list s.list k))∧Blk wx G 127 (yX s.list)∧wq.grownBy wx (some hg)) (fun v179 _=>(8-intOf v179).toNat)
 case atStart=>exact⟨0,rfl,by omega,am,hS,yD nu _⟩
 case round =>
 clear am hS nu;obtain⟨k,rfl,Y7,mz,Zy,cL⟩:=hrel
 by_cases z6:(k:Int)<8
 ·have ch:=mz.drew.cell k (yQ _ _ (by rw[tq];simp[S8.list];omega));have cs:=Zy.drew.cell k (yQ _ _ (by simp[S8.list];omega));obtain⟨xh,aV⟩:∃ x,yb (qu h0.list s.list k) k=x:=⟨_,rfl⟩
  obtain⟨xs,iF⟩:∃ x,yb s.list k=x:=⟨_,rfl⟩
  rw[aV]at ch;rw[iF]at cs;have HX:=Hh (And.intro aV iF);clear aV iF;go_upto_region 23 with fail
  refine zp 8 (fun wx=>wx.cell? ⟨hg,k,none⟩=some (.int .u32 xh)∧wx.cell? ⟨G,k,none⟩=some (.int .u32 xs)) (by kernel_rfl) (⟨ch,cs⟩) (fun zy=>?_)
  refine Tk 0 rfl zy ?_
  refine Tk 1 rfl zy ?_
  refine Tk 2 rfl zy ?_
  refine Tk 3 rfl zy ?_
  refine Tk 4 rfl zy ?_
  refine Tk 5 rfl zy ?_
  refine Tk 6 rfl zy ?_
  refine Tk 7 rfl zy ?_
  refine To 8 rfl fun K hK=>?_
  rw[if_pos (by rfl)]
  refine zZ _ _ _ rfl hg k (.int .u32 (IntKind.u32.wrap (xh+xs))) rfl rfl _ _ mz.drew xC (by rw[xc,tq];simp[S8.list];omega) rfl fun w9 hh9 hg9=>?_
  refine Kz hK ?_
  clear hK K
  refine Wd ?_
  clear zy
  have Zf:Blk w9 hg 127 (yX (qu h0.list s.list (k+1))):=by
   obtain⟨rfl,rfl⟩:=HX.out;rw[vY]at hh9
   exact hh9
  have jx:=Zy.drew.grown hg9 (by intro hc;injection hc;omega);have mX:=z8 (wi cL) hg9 (.inl rfl);clear hh9 hg9 ch cs mz Zy cL;go_wp2_with fail
  go_roundw
  case rel=>exact⟨k+1,by go_num,by omega,Zf,jx,mX⟩
  case measure=>simp[intOf];omega
 obtain rfl:k=8:=by omega
 rw[show((8:Nat):Int)=8 from rfl]at z6⊢;have hE:yX (qu h0.list s.list 8)=(wA yn h0 bs).cells:=by rw[wA,Zt.out];rfl
 rw[hE]at mz;clear hE;have SW:=(hR.below (Below.refl _ _)).grown cL (by intro hc;injection hc;omega);have l0:=mz.cell 0 rfl;have l1:=mz.cell 1 rfl;have l2:=mz.cell 2 rfl;have l3:=mz.cell 3 rfl;have l4:=mz.cell 4 rfl;have l5:=mz.cell 5 rfl;have l6:=mz.cell 6 rfl;have l7:=mz.cell 7 rfl;go_wp2_with (with_reducible refine zx ?_)
 refine zr rfl _ _ _ rfl rfl (hg+1) (wA yn h0 bs).cells rfl rfl _ _ SW sJ rfl (S8.one _) fun wz hRz hgz=>?_
 clear l0 l1 l2 l3 l4 l5 l6 l7
 have vQ:Below w.heap.size w wz:=by
  have e1:=Rf.out;have e2:=WA.out.2
  exact(e1.grown cL e1.size (by rintro q ⟨⟩;omega)).grown hgz (Nat.le_trans e1.size cL.size) (by rintro q ⟨⟩;omega)
 go_wp2_with fail
 refine wd rfl rfl hRz rfl rfl sJ rfl ?_
 exact⟨rfl,vQ⟩
def js:S8:=⟨yH 7640891576956012808,yH 13503953896175478587,yH 4354685564936845355,yH 11912009170470909681,yH 5840696475078001361,yH 11170449401992604703,yH 2270897969802886507,yH 6620516959819538809⟩
def mV (m:List UInt8) (k:Nat):List UInt8:=(m.drop (64*k)).take 64
def uN (m:List UInt8):Nat→S8
 | 0=>js
 | k+1=>wA yn (uN m k) (mV m k)
def qQ (x:Int) (d:Int):UInt8:=UInt8.ofNat (x/d%256).toNat
def xt (x:Int):List UInt8:=[qQ x 16777216,qQ x 65536,qQ x 256,qQ x 1]
def vB (l:List UInt8):List UInt8:=(uN (xe l) ((xe l).length/64)).list.flatMap xt
theorem fh (x d:Int):zm (qQ x d)=.int .u8 (IntKind.u8.wrap (x/d)):=by
 have h:((x/d%256).toNat:Int)=x/d%256:=Int.toNat_of_nonneg (Int.emod_nonneg _ (by decide));have h2:(x/d%256).toNat<256:=by have:=Int.emod_lt_of_pos (x/d) (show(0:Int)<256 by decide);omega
 rw[zm,qQ,UInt8.toNat_ofNat',Nat.mod_eq_of_lt h2,h];rfl
theorem xU (l:List UInt8):(vB l).length=32:=rfl
theorem lp {m:List UInt8}{k:Nat}(h:64*k+64≤m.length):(mV m k).length=64:=by
 rw[mV,List.length_take,List.length_drop]
 omega
def kP:Nat→List Int
 | 0=>List.replicate 64 0
 | k+1=>(kP k).set k (yb yn k)
theorem eB:∀ k,(kP k).length=64
 | 0=>rfl
 | k+1=>by rw[kP,List.length_set,eB k]
def KK:List Int:=yn.take 64
theorem Yr:KK.length=64:=rfl
theorem Wu:kP 64=KK:=by kernel_rfl
theorem fe:((List.range 64).all fun i=>decide (yH ((zF (vZ.take 64) i:Nat):Int)=yb yn i))=true:=by kernel_rfl
theorem dF {i:Nat}(h:i<64):yH ((zF (vZ.take 64) i:Nat):Int)=yb yn i:=by
 have h1:=fe;rw[List.all_eq_true]at h1
 exact of_decide_eq_true (h1 i (List.mem_range.2 h))
def hP8:Nat→List Int
 | 0=>List.replicate 8 0
 | k+1=>(hP8 k).set k (yH ((zF xy k:Nat):Int))
theorem iM:∀ k,(hP8 k).length=8
 | 0=>rfl
 | k+1=>by rw[hP8,List.length_set,iM k]
theorem Wr:hP8 8=js.list:=by kernel_rfl
def iP8:Nat→List Int
 | 0=>List.replicate 8 0
 | k+1=>(iP8 k).set k (yH (yb vu k))
theorem iN:∀ k,(iP8 k).length=8
 | 0=>rfl
 | k+1=>by rw[iP8,List.length_set,iN k]
theorem Wt:iP8 8=js.list:=by kernel_rfl
theorem Yq {i:Nat}(h:i<64):yb KK i=yb yn i:=by
 unfold yb KK
 rw[List.getD_eq_getElem?_getD,List.getD_eq_getElem?_getD,List.getElem?_take,if_pos h]
theorem tE {K K' W:List Int}{h:S8}:∀ n,(∀ i,i<n→yb K i=yb K' i)→yI K W h n=yI K' W h n
 | 0,_=>rfl
 | n+1,hn=>by rw[yI,yI,tE n (fun i hi=>hn i (by omega)),hn n (by omega)]
theorem fg (h:S8) (bs:List UInt8):wA KK h bs=wA yn h bs:=by
 unfold wA
 rw[tE 64 (fun i hi=>Yq hi)]
theorem pk (m:List UInt8) (k:Nat):uN m (k+1)=wA yn (uN m k) (mV m k):=rfl
def nh (s:S8) (i:Nat):List UInt8:=(s.list.take i).flatMap xt
theorem eF (s:S8):nh s 8=s.list.flatMap xt:=by rw[nh,List.take_of_length_le (by rw[S8.list];simp)]
theorem yr (x:Int):(xt x).length=4:=rfl
theorem mB (s:S8) (i:Nat) (h:i≤8):(nh s i).length=4*i:=by
 obtain rfl | rfl | rfl | rfl | rfl | rfl | rfl | rfl | rfl:i=0∨i=1∨i=2∨i=3∨i=4∨i=5∨i=6∨i=7∨i=8:=by omega
 all_goals rfl
theorem oH (s:S8) (i:Nat) (h:i<8):nh s i++xt (yb s.list i)=nh s (i+1):=by
 have hl:i<s.list.length:=by rw[S8.list];exact h
 rw[nh,nh,List.take_succ_eq_append_getElem hl,List.flatMap_append,List.flatMap_singleton]
 unfold yb
 rw[List.getD_eq_getElem?_getD,List.getElem?_eq_getElem hl];rfl
theorem tU (x d:Int):zm (qQ x d)=.int .u8 (x/d%256):=by
 rw[fh,IntKind.wrap_u8]
theorem zN (x:Int):(xt x).map zm=[.int .u8 (x/16777216%256),.int .u8 (x/65536%256),.int .u8 (x/256%256),.int .u8 (x%256)]:=by
 simp only[xt,List.map_cons,List.map_nil]
 rw[tU,tU,tU,tU,Int.ediv_one]
end Go.Proofs.YtnfoilblmhbobaaGreatDoor
