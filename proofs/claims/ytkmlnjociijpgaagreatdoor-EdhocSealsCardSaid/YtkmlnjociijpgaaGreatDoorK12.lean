/- squeezed. SHA-256: the reference's constants -/
import Derived.Test.YtkmlnjociijpgaaGreatDoorK11
import Derived.Great.BuildSlice
import Derived.Test.YtkmlnjociijpgaaGreatDoorK10
set_option linter.unusedVariables false
set_option linter.unusedSimpArgs false
set_option maxRecDepth 100000
set_option maxHeartbeats 3200000
namespace Go.Proofs.YtkmlnjociijpgaaGreatDoor
open Go.RowKit
theorem jde{P:Prop}(h:P:=by exact⟨rfl,hb.grown hg2 hb.size (by rintro q ⟨⟩;exact Nat.le_refl _)⟩):P:=h
def qO (l:List Int):Array Value:=(l.map (Value.int .u64)).toArray
theorem kD (l:List Int):(qO l).size=l.length:=by simp[qO]
theorem Zy (l:List Int) (i:Nat) (h:i<l.length):(qO l)[i]? = some (.int .u64 (wk l i)):=by
 simp[qO,wk,h]
theorem gQ (l:List Int):(qO l).all (·.oneCell')=true:=by simp[qO,Value.oneCell']
def sN:List Int:=[4794697086780616226,8158064640168781261,13096744586834688815,16840607885511220156,4131703408338449720,6480981068601479193,10538285296894168987,12329834152419229976,15566598209576043074,1334009975649890238,2608012711638119052,6128411473006802146,8268148722764581231,9286055187155687089,11230858885718282805,13951009754708518548,16472876342353939154,17275323862435702243,1135362057144423861,2597628984639134821,3308224258029322869,5365058923640841347,6679025012923562964,8573033837759648693,10970295158949994411,12119686244451234320,12683024718118986047,13788192230050041572,14330467153632333762,15395433587784984357,489312712824947311,1452737877330783856,2861767655752347644,3322285676063803686,5560940570517711597,5996557281743188959,7280758554555802590,8532644243296465576,9350256976987008742,10552545826968843579,11727347734174303076,12113106623233404929,14000437183269869457,14369950271660146224,15101387698204529176,15463397548674623760,17586052441742319658,1182934255886127544,1847814050463011016,2177327727835720531,2830643537854262169,3796741975233480872,4115178125766777443,5681478168544905931,6601373596472566643,7507060721942968483,8399075790359081724,8693463985226723168,9568029438360202098,10144078919501101548,10430055236837252648,11840083180663258601,13761210420658862357,14299343276471374635,14566680578165727644,15097957966210449927,16922976911328602910,17689382322260857208,500013540394364858,748580250866718886,1242879168328830382,1977374033974150939,2944078676154940804,3659926193048069267,4368137639120453308,4836135668995329356,5532061633213252278,6448918945643986474,6902733635092675308,7801388544844847127]
def rW:List Int:=[7640891576956012808,13503953896175478587,4354685564936845355,11912009170470909681,5840696475078001361,11170449401992604703,2270897969802886507,6620516959819538809]
theorem qW:sN.length=80:=rfl
theorem Yf:rW.length=8:=rfl
def vZ (x:Int):Int:=IntKind.u32.wrap (x/4294967296)
def xI:List Int:=sN.map vZ
theorem bB (k:Nat) (h:k<80):wk xI k=vZ (wk sN k):=by
 have h1:k<sN.length:=by rw[qW];exact h
 unfold wk xI
 rw[List.getD_eq_getElem?_getD,List.getD_eq_getElem?_getD,List.getElem?_map,List.getElem?_eq_getElem h1];rfl
theorem gS:(Tryz.prog.info? 266).map (·.size)=some 80:=by kernel_rfl
theorem XZ {P:Program}{ops:Array Oper}{Q:Exit→Act→World→Prop}{rest:List Oper}{a:Act}{w:World}{dst:Option Tmp}{ty:TypeId}{ps:Array (Nat×Operand)}{T:TypeId}{pos:String}{af:Array Edge}{g:Option (Nat×Bool)}
  (h:zZ (wpList P ops Q (⟨dst,.build ty ps,T,pos,af,g⟩::rest) a w)):wpList P ops Q (⟨dst,.build ty ps,T,pos,af,g⟩::rest) a w:=h
theorem ed (w:World):Calls Tryz.prog 230 #[] w fun e w'=>e=.returned (.agg (qO sN))∧Below w.heap.size w w':=by
 have hB:=Blk.new w 266 (qO (List.replicate 80 0));have hb:=zX w (.cells (qO (List.replicate 80 0)) 266);go_enter Tryz.func230,Tryz.ntmps230
 go_wp2_with (with_reducible refine XZ ?_)
 refine wpList_buildTo rfl _ _ rfl _ rfl (qO sN) (by kernel_rfl) ?_
 go_wp2_with (with_reducible refine zx ?_)
 refine zm rfl _ _ _ rfl rfl w.heap.size (qO sN) rfl rfl _ _ hB gS (by simp[kD,qW]) (gQ _) fun w2 wm hg2=>?_
 go_wp2_with fail
 refine xU rfl rfl wm rfl rfl gS rfl ?_
 exact jde
theorem bL {H:Snap}{b off c:Nat}{bs:List UInt8}(hb:IsBytes H (some ⟨b,off,none⟩) c bs) (hl:bs.length=64) (h0:S8) (w:World) (hH:Holds w H) :
  Calls Tryz.prog 215 #[.agg h0.cells,.slice (some ⟨b,off,none⟩) 64 c] w fun e w'=>e=.returned (.agg (rp xI h0 bs).cells)∧Below w.heap.size w w':=by
 have HB:=Hh hb;have HL:=Hh hl;have kT:=Blk.new w 247 h0.cells;have oR:=Blk.new (w.alloc (.cells h0.cells 247)) 247 (we (List.replicate 8 0));rw[za]at oR;have yB:=zX w (.cells h0.cells 247);have zY:=yB.alloc yB.size (.cells (we (List.replicate 8 0)) 247);replace kT:=kT.alloc (.cells (we (List.replicate 8 0)) 247);go_enter Tryz.func215,Tryz.ntmps215
 go_wp2_with fail
 refine(ed _).mono ?_
 rintro e w2 ⟨rfl,zD⟩
 have hC:=Blk.new w2 266 (qO (List.replicate 80 0));have wm:=(kT.below zD).alloc (.cells (qO (List.replicate 80 0)) 266);have YX:=(oR.below zD).alloc (.cells (qO (List.replicate 80 0)) 266);have pf:=(zY.trans (zD.mono zY.size)).alloc (Nat.le_trans zY.size zD.size) (.cells (qO (List.replicate 80 0)) 266);have EC:=(oR.below zD).lt;obtain⟨kg,EB⟩:∃ kg,w2.heap.size=kg:=⟨_,rfl⟩
 obtain⟨hg,Dw⟩:∃ hg,w.heap.size=hg:=⟨_,rfl⟩
 rw[EB]at hC EC;rw[Dw]at wm YX EC;have Eu:=Hh (And.intro EB Dw);clear zD yB zY kT oR hb hl;have Ih:=pf.size;have hC':=hC;clear EB Dw;go_wp2_with (with_reducible refine zx ?_)
 unfold zZ
 rw[Eu.out.1,Eu.out.2]
 refine zm rfl _ _ _ rfl rfl kg (qO sN) rfl rfl _ _ hC gS (by simp[kD,qW]) (gQ _) fun wq hKb Mp=>?_
 have hh:=wm.grown Mp (by intro hc;injection hc;omega);have hR:=YX.grown Mp (by intro hc;injection hc;omega);have Oo:Below w.heap.size w wq:=pf.grown Mp pf.size (by rintro q ⟨⟩;have:=Eu.out;omega);have HH:=Hh (hH.below Oo (Nat.le_refl _));have HN:=Hh (Blk.new wq 246 (we (yy bs 0)));have HBQ:=Hh Oo;have Cg:=Hh (show 64≤sN.length by rw[qW];omega);clear hC hC' Mp wm YX pf hH Ih Oo EC;go_wp2_with fail
 go_loopw [18] (fun v18 wr=>∃ k:Nat,v18=.int .i64 (k:Int)∧k≤64∧Blk wr wq.heap.size 246 (we (yy bs k))∧Below wq.heap.size wq wr) (fun v18 _=>(64-intOf v18).toNat)
 case atStart=>exact⟨0,rfl,by omega,HN.out,zX _ _⟩
 case round =>
 obtain⟨k,rfl,Y3,hW,oL⟩:=hrel
 by_cases z9:(k:Int)<64
 ·by_cases Rv:(k:Int)<16
  ·obtain⟨j0,VN⟩:∃ j,4*k=j:=⟨_,rfl⟩
   obtain⟨j1,fG⟩:∃ j,4*k+1=j:=⟨_,rfl⟩
   obtain⟨j2,cd⟩:∃ j,4*k+2=j:=⟨_,rfl⟩
   obtain⟨j3,WV⟩:∃ j,4*k+3=j:=⟨_,rfl⟩
   have W0:IntKind.i64.wrap (4*(k:Int))=(j0:Int):=by rw[← VN];exact IntWalk.i64_in _ (by omega)
   have W1:IntKind.i64.wrap ((j0:Int)+1)=(j1:Int):=by rw[← fG,← VN];exact IntWalk.i64_in _ (by omega)
   have W2:IntKind.i64.wrap ((j0:Int)+2)=(j2:Int):=by rw[← cd,← VN];exact IntWalk.i64_in _ (by omega)
   have W3:IntKind.i64.wrap ((j0:Int)+3)=(j3:Int):=by rw[← WV,← VN];exact IntWalk.i64_in _ (by omega)
   have l0:(j0:Int)<64:=by omega
   have l1:(j1:Int)<64:=by omega
   have l2:(j2:Int)<64:=by omega
   have l3:(j3:Int)<64:=by omega
   obtain⟨b0,b1,b2,b3,HJ⟩:=jgE;clear VN fG cd WV;have OS:=Hh (HH.out.below oL (Nat.le_refl _));have cR:=hW.drew;go_upto_region 7 with fail
   refine zr 35 (fun wx=>wx.cell? ⟨b,off+j0,none⟩=some (.int .u8 (vP bs j0))∧wx.cell? ⟨b,off+j1,none⟩=some (.int .u8 (vP bs j1))∧wx.cell? ⟨b,off+j2,none⟩=some (.int .u8 (vP bs j2))∧wx.cell? ⟨b,off+j3,none⟩=some (.int .u8 (vP bs j3))) (by kernel_rfl) (⟨OS.out.drew.cell b0,OS.out.drew.cell b1,OS.out.drew.cell b2,OS.out.drew.cell b3⟩) (fun zy=>?_)
   refine Tk 0 rfl zy ?_
   refine Tk 1 rfl zy ?_
   refine Tk 2 rfl zy ?_
   refine Tk 3 rfl zy ?_
   refine Tk 4 rfl zy ?_
   refine Tk 5 rfl zy ?_
   refine Tk 6 rfl zy ?_
   refine Tk 7 rfl zy ?_
   refine Tk 8 rfl zy ?_
   refine Tk 9 rfl zy ?_
   refine Tk 10 rfl zy ?_
   refine Tk 11 rfl zy ?_
   refine Tk 12 rfl zy ?_
   refine Tk 13 rfl zy ?_
   refine Tk 14 rfl zy ?_
   refine Tk 15 rfl zy ?_
   refine Tk 16 rfl zy ?_
   refine Tk 17 rfl zy ?_
   refine Tk 18 rfl zy ?_
   refine Tk 19 rfl zy ?_
   refine Tk 20 rfl zy ?_
   refine Tk 21 rfl zy ?_
   refine Tk 22 rfl zy ?_
   refine Tk 23 rfl zy ?_
   refine Tk 24 rfl zy ?_
   refine Tk 25 rfl zy ?_
   refine Tk 26 rfl zy ?_
   refine Tk 27 rfl zy ?_
   refine Tk 28 rfl zy ?_
   refine Tk 29 rfl zy ?_
   refine Tk 30 rfl zy ?_
   refine Tk 31 rfl zy ?_
   refine Tk 32 rfl zy ?_
   refine Tk 33 rfl zy ?_
   refine Tk 34 rfl zy ?_
   refine To 35 rfl fun K hK=>?_
   rw[if_pos (by rfl)]
   refine zO _ _ _ rfl wq.heap.size k (.int .u32 (WJ (vP bs j0) (vP bs j1) (vP bs j2) (vP bs j3))) rfl rfl _ _ cR t9 (by rw[uL,xg];omega) rfl fun w9 hW9 xt=>?_
   refine Kz hK ?_
   clear hK K
   refine Wd ?_
   clear zy;have YY:Below wq.heap.size wq w9:=oL.drew.grown xt oL.size (by rintro q ⟨⟩;exact Nat.le_refl _)
   have Lw:Blk w9 wq.heap.size 246 (we (yy bs (k+1))):=by
    exact jdj
   exact jbe
  have ew:16≤k:=by omega
  obtain⟨a15,Xw⟩:∃ j,k-15=j:=⟨_,rfl⟩
  obtain⟨a2,jE⟩:∃ j,k-2=j:=⟨_,rfl⟩
  obtain⟨a7,M5⟩:∃ j,k-7=j:=⟨_,rfl⟩
  obtain⟨a16,Xx⟩:∃ j,k-16=j:=⟨_,rfl⟩
  have W15:IntKind.i64.wrap ((k:Int)-15)=(a15:Int):=by rw[← Xw,show((k-15:Nat):Int)=(k:Int)-15 by omega];exact IntWalk.i64_in _ (by omega)
  have W2:IntKind.i64.wrap ((k:Int)-2)=(a2:Int):=by rw[← jE,show((k-2:Nat):Int)=(k:Int)-2 by omega];exact IntWalk.i64_in _ (by omega)
  have W7:IntKind.i64.wrap ((k:Int)-7)=(a7:Int):=by rw[← M5,show((k-7:Nat):Int)=(k:Int)-7 by omega];exact IntWalk.i64_in _ (by omega)
  have W16:IntKind.i64.wrap ((k:Int)-16)=(a16:Int):=by rw[← Xx,show((k-16:Nat):Int)=(k:Int)-16 by omega];exact IntWalk.i64_in _ (by omega)
  have l15:(a15:Int)<64:=by omega
  have l2:(a2:Int)<64:=by omega
  have l7:(a7:Int)<64:=by omega
  have l16:(a16:Int)<64:=by omega
  have cR:=hW.drew;obtain⟨b15,b2,b7,b16,HJ⟩:=jgC;obtain⟨x15,YB⟩:∃ x,wk (yy bs k) a15=x:=⟨_,rfl⟩
  obtain⟨x2,oM⟩:∃ x,wk (yy bs k) a2=x:=⟨_,rfl⟩
  obtain⟨x7,MI⟩:∃ x,wk (yy bs k) a7=x:=⟨_,rfl⟩
  obtain⟨x16,YC⟩:∃ x,wk (yy bs k) a16=x:=⟨_,rfl⟩
  rw[YB]at b15;rw[oM]at b2;rw[MI]at b7;rw[YC]at b16;have HX:=Hh (And.intro YB (And.intro oM (And.intro MI YC)));clear Xw jE M5 Xx YB oM MI YC;go_upto_region 8 with fail
  refine zr 10 (fun wx=>wx.cell? ⟨wq.heap.size,a15,none⟩=some (.int .u32 x15)∧wx.cell? ⟨wq.heap.size,a2,none⟩=some (.int .u32 x2)) (by kernel_rfl) (⟨b15,b2⟩) (fun zy=>?_)
  refine TkS 0 rfl zy ?_
  refine TkS 1 rfl zy ?_
  refine TkS 2 rfl zy ?_
  refine TkS 3 rfl zy ?_
  refine TkS 4 rfl zy ?_
  refine TkS 5 rfl zy ?_
  refine TkS 6 rfl zy ?_
  refine TkS 7 rfl zy ?_
  refine TkS 8 rfl zy ?_
  refine TkS 9 rfl zy ?_
  refine Wd ?_
  clear zy;go_upto_region 9 with fail
  refine zr 29 (fun wx=>wx.cell? ⟨wq.heap.size,a7,none⟩=some (.int .u32 x7)∧wx.cell? ⟨wq.heap.size,a16,none⟩=some (.int .u32 x16)) (by kernel_rfl) (⟨b7,b16⟩) (fun zy=>?_)
  refine Tk 0 rfl zy ?_
  refine Tk 1 rfl zy ?_
  refine Tk 3 rfl zy ?_
  refine Tk 6 rfl zy ?_
  refine Tk 7 rfl zy ?_
  refine Tk 9 rfl zy ?_
  refine Tk 10 rfl zy ?_
  refine Tk 11 rfl zy ?_
  refine Tk 12 rfl zy ?_
  refine Tk 14 rfl zy ?_
  refine Tk 16 rfl zy ?_
  refine Tk 19 rfl zy ?_
  refine Tk 20 rfl zy ?_
  refine Tk 23 rfl zy ?_
  refine Tk 24 rfl zy ?_
  refine Tk 25 rfl zy ?_
  refine Tk 26 rfl zy ?_
  refine To 2 rfl fun K hK=>?_
  go_simp
  refine(U7 _ _).mono ?_
  rintro e w5 ⟨rfl,rfl⟩
  clear zy
  refine hK.out _ _ (fun _=>?_) (fun zy=>?_)
  ·exact⟨b7,b16⟩
  clear hK K;replace zy:=zy (by decide)
  try simp only[Act.put,zz1,zz2,zz3,zz4,zz5,zz6]
  refine To 4 rfl fun K hK=>?_
  go_simp
  refine(U9 _ _).mono ?_
  rintro e w5 ⟨rfl,rfl⟩
  clear zy
  refine hK.out _ _ (fun _=>?_) (fun zy=>?_)
  ·exact⟨b7,b16⟩
  clear hK K;replace zy:=zy (by decide)
  try simp only[Act.put,zz1,zz2,zz3,zz4,zz5,zz6]
  refine Tk 5 rfl zy ?_
  refine Tk 8 rfl zy ?_
  refine Tk 13 rfl zy ?_
  refine To 15 rfl fun K hK=>?_
  go_simp
  refine(QP _ _).mono ?_
  rintro e w5 ⟨rfl,rfl⟩
  clear zy
  refine hK.out _ _ (fun _=>?_) (fun zy=>?_)
  ·exact⟨b7,b16⟩
  clear hK K;replace zy:=zy (by decide)
  try simp only[Act.put,zz1,zz2,zz3,zz4,zz5,zz6]
  refine To 17 rfl fun K hK=>?_
  go_simp
  refine(U8 _ _).mono ?_
  rintro e w5 ⟨rfl,rfl⟩
  clear zy
  refine hK.out _ _ (fun _=>?_) (fun zy=>?_)
  ·exact⟨b7,b16⟩
  clear hK K;replace zy:=zy (by decide)
  try simp only[Act.put,zz1,zz2,zz3,zz4,zz5,zz6]
  refine Tk 18 rfl zy ?_
  refine Tk 21 rfl zy ?_
  refine Tk 22 rfl zy ?_
  refine Tk 27 rfl zy ?_
  refine Tk 28 rfl zy ?_
  refine To 29 rfl fun K hK=>?_
  rw[if_pos (by rfl)]
  refine zO _ _ _ rfl wq.heap.size k (.int .u32 (OR x15 x2 x7 x16)) rfl rfl _ _ cR t9 (by rw[uL,xg];omega) rfl fun w9 hW9 xt=>?_
  refine Kz hK ?_
  clear hK K
  refine Wd ?_
  clear zy;have YY:Below wq.heap.size wq w9:=oL.drew.drew.grown xt oL.size (by rintro q ⟨⟩;exact Nat.le_refl _)
  have Lw:Blk w9 wq.heap.size 246 (we (yy bs (k+1))):=by
   exact jcE
  exact jbe
 obtain rfl:k=64:=by omega
 rw[show((64:Nat):Int)=64 from rfl]at z9⊢;obtain⟨cY,Db,d0,d1,d2,d3,d4,d5,d6,d7⟩:=jfu;have HZ:=Hh oL.size;have Cr:Hid (hg<wq.heap.size∧kg<wq.heap.size):=⟨hh.lt,hKb.lt⟩
 obtain⟨G,hG⟩:∃ G,wr.heap.size=G:=⟨_,rfl⟩
 have oP:=Hh (Blk.new wr 247 h0.cells);rw[hG]at oP;have S9:=hW.alloc (.cells h0.cells 247);have zD:=oL.alloc oL.size (.cells h0.cells 247);have HG:=Hh hG;have Mc:Hid (wq.heap.size<G):=by have:=hW.lt;rw[Hid];omega
 clear HN z9 Y3 cY hG;go_wp2_with fail
 rw[HG.out];go_loopw [97] (fun v97 wx=>∃ k:Nat,v97=.int .i64 (k:Int)∧k≤64∧Blk wx G 247 (vf xI (yy bs 64) h0 k).cells∧Blk wx wq.heap.size 246 (we (yy bs 64))∧Below wq.heap.size wq wx) (fun v97 _=>(64-intOf v97).toNat)
 case atStart=>exact⟨0,rfl,by omega,oP.out,S9,zD⟩
 case round =>
 clear S9 zD oP d0 d1 d2 d3 d4 d5 d6 d7 hW Db;obtain⟨k,rfl,Y3,hS,Om,uv⟩:=hrel
 by_cases z9:(k:Int)<64
 ·obtain⟨s,hs⟩:∃ s,vf xI (yy bs 64) h0 k=s:=⟨_,rfl⟩
  rw[hs]at hS;have Li:=Hh hs;clear hs;obtain⟨c0,c1,c2,c3,c4,c5,c6,c7⟩:=jfB;have ck:=(hKb.below uv).cell k (Zy _ _ (by have:=Cg.out;omega));have cw:=Om.cell k (wL _ _ (by rw[xg];omega));have h80:(k:Int)<80:=by omega
  obtain⟨xk,PS⟩:∃ x,wk sN k=x:=⟨_,rfl⟩
  obtain⟨xw,aw⟩:∃ x,wk (yy bs 64) k=x:=⟨_,rfl⟩
  rw[PS]at ck;rw[aw]at cw;have HX:=Hh (And.intro PS aw);clear PS aw;go_upto_region 15 with fail
  refine zr 6 (fun wx=>wx.cell? ⟨G,0,none⟩=some (.int .u32 s.a)∧wx.cell? ⟨G,4,none⟩=some (.int .u32 s.e)) (by kernel_rfl) (⟨c0,c4⟩) (fun zy=>?_)
  refine TkS 0 rfl zy ?_
  refine TkS 1 rfl zy ?_
  refine TkS 2 rfl zy ?_
  refine TkS 3 rfl zy ?_
  refine TkS 4 rfl zy ?_
  refine TkS 5 rfl zy ?_
  refine Wd ?_
  clear zy;go_upto_region 16 with fail
  refine zr 33 (fun wx=>wx.cell? ⟨G,7,none⟩=some (.int .u32 s.h)∧wx.cell? ⟨G,5,none⟩=some (.int .u32 s.f)∧wx.cell? ⟨G,6,none⟩=some (.int .u32 s.g)∧wx.cell? ⟨kg,k,none⟩=some (.int .u64 xk)∧wx.cell? ⟨wq.heap.size,k,none⟩=some (.int .u32 xw)) (by kernel_rfl) (⟨c7,c5,c6,ck,cw⟩) (fun zy=>?_)
  refine TkS 0 rfl zy ?_
  refine TkS 1 rfl zy ?_
  refine TkS 2 rfl zy ?_
  refine TkS 4 rfl zy ?_
  refine TkS 7 rfl zy ?_
  refine TkS 11 rfl zy ?_
  refine TkS 12 rfl zy ?_
  refine TkS 13 rfl zy ?_
  refine TkS 14 rfl zy ?_
  refine TkS 15 rfl zy ?_
  refine TkS 16 rfl zy ?_
  refine TkS 17 rfl zy ?_
  refine TkS 18 rfl zy ?_
  refine TkS 19 rfl zy ?_
  refine TkS 20 rfl zy ?_
  refine TkS 22 rfl zy ?_
  refine TkS 23 rfl zy ?_
  refine TkS 24 rfl zy ?_
  refine TkS 25 rfl zy ?_
  refine TkS 26 rfl zy ?_
  refine TkS 28 rfl zy ?_
  refine TkS 29 rfl zy ?_
  refine TkS 30 rfl zy ?_
  refine To 3 rfl fun K hK=>?_
  go_simp
  refine(QO _ _).mono ?_
  rintro e w5 ⟨rfl,rfl⟩
  clear zy
  refine hK.out _ _ (fun _=>?_) (fun zy=>?_)
  ·exact jcV
  clear hK K;replace zy:=zy (by decide)
  try simp only[Act.put,zz1,zz2,zz3,zz4,zz5,zz6]
  refine To 5 rfl fun K hK=>?_
  go_simp
  refine(U5 _ _).mono ?_
  rintro e w5 ⟨rfl,rfl⟩
  clear zy
  refine hK.out _ _ (fun _=>?_) (fun zy=>?_)
  ·exact jcV
  clear hK K;replace zy:=zy (by decide)
  try simp only[Act.put,zz1,zz2,zz3,zz4,zz5,zz6]
  refine TkS 6 rfl zy ?_
  refine To 8 rfl fun K hK=>?_
  go_simp
  refine(UC _ _).mono ?_
  rintro e w5 ⟨rfl,rfl⟩
  clear zy
  refine hK.out _ _ (fun _=>?_) (fun zy=>?_)
  ·exact jcV
  clear hK K;replace zy:=zy (by decide)
  try simp only[Act.put,zz1,zz2,zz3,zz4,zz5,zz6]
  refine TkS 9 rfl zy ?_
  refine TkS 10 rfl zy ?_
  refine TkS 21 rfl zy ?_
  refine TkS 27 rfl zy ?_
  refine TkS 31 rfl zy ?_
  refine TkS 32 rfl zy ?_
  refine Wd ?_
  clear zy;obtain⟨xu,Em⟩:∃ x,IntKind.u32.wrap (xk/4294967296)=x:=⟨_,rfl⟩
  rw[Em];have I9:=Hh Em;clear Em;go_upto_region 17 with fail
  refine zr 25 (fun wx=>wx.cell? ⟨G,1,none⟩=some (.int .u32 s.b)∧wx.cell? ⟨G,2,none⟩=some (.int .u32 s.c)) (by kernel_rfl) (⟨c1,c2⟩) (fun zy=>?_)
  refine TkS 0 rfl zy ?_
  refine TkS 2 rfl zy ?_
  refine TkS 5 rfl zy ?_
  refine TkS 8 rfl zy ?_
  refine TkS 9 rfl zy ?_
  refine TkS 10 rfl zy ?_
  refine TkS 11 rfl zy ?_
  refine TkS 12 rfl zy ?_
  refine TkS 13 rfl zy ?_
  refine TkS 14 rfl zy ?_
  refine TkS 15 rfl zy ?_
  refine TkS 16 rfl zy ?_
  refine TkS 17 rfl zy ?_
  refine TkS 18 rfl zy ?_
  refine TkS 19 rfl zy ?_
  refine TkS 20 rfl zy ?_
  refine TkS 21 rfl zy ?_
  refine TkS 22 rfl zy ?_
  refine To 1 rfl fun K hK=>?_
  go_simp
  refine(QN _ _).mono ?_
  rintro e w5 ⟨rfl,rfl⟩
  clear zy
  refine hK.out _ _ (fun _=>?_) (fun zy=>?_)
  ·exact⟨c1,c2⟩
  clear hK K;replace zy:=zy (by decide)
  try simp only[Act.put,zz1,zz2,zz3,zz4,zz5,zz6]
  refine To 3 rfl fun K hK=>?_
  go_simp
  refine(U6 _ _).mono ?_
  rintro e w5 ⟨rfl,rfl⟩
  clear zy
  refine hK.out _ _ (fun _=>?_) (fun zy=>?_)
  ·exact⟨c1,c2⟩
  clear hK K;replace zy:=zy (by decide)
  try simp only[Act.put,zz1,zz2,zz3,zz4,zz5,zz6]
  refine TkS 4 rfl zy ?_
  refine To 6 rfl fun K hK=>?_
  go_simp
  refine(UB _ _).mono ?_
  rintro e w5 ⟨rfl,rfl⟩
  clear zy
  refine hK.out _ _ (fun _=>?_) (fun zy=>?_)
  ·exact⟨c1,c2⟩
  clear hK K;replace zy:=zy (by decide)
  try simp only[Act.put,zz1,zz2,zz3,zz4,zz5,zz6]
  refine TkS 7 rfl zy ?_
  refine TkS 23 rfl zy ?_
  refine TkS 24 rfl zy ?_
  refine Wd ?_
  clear zy;go_wp2_with (with_reducible refine zx ?_)
  refine zm rfl _ _ _ rfl rfl G (Xk s xu xw).cells rfl rfl _ _ hS lH rfl (S8.one _) fun w9 PN xt=>?_
  have j4:Blk w9 G 247 (vf xI (yy bs 64) h0 (k+1)).cells:=by
   rw[vf,Li.out,bB _ (by omega),vZ,HX.out.1,HX.out.2,I9.out]
   exact PN
  have aa:wq.heap.size<G:=Mc.out;exact jbn
 obtain rfl:k=64:=by omega
 rw[show((64:Nat):Int)=64 from rfl]at z9⊢;obtain⟨s,hs⟩:∃ s,vf xI (yy bs 64) h0 64=s:=⟨_,rfl⟩
 rw[hs]at hS;have Li:=Hh hs;have Il:=hh.below uv;have aa:wq.heap.size<G:=Mc.out;have hgh:hg<wq.heap.size:=Cr.out.1;clear hs z9 Y3 hKb Om;go_wp2_with fail
 go_loopw [179] (fun v179 wx=>∃ k:Nat,v179=.int .i64 (k:Int)∧k≤8∧Blk wx hg 247 (we (iz h0.list s.list k))∧Blk wx G 247 (we s.list)∧wq.grownBy wx (some hg)) (fun v179 _=>(8-intOf v179).toNat)
 case atStart=>exact⟨0,rfl,by omega,Il,hS,vW uv _⟩
 case round =>
 clear Il hS uv;obtain⟨k,rfl,Ir,am,ad,Sp⟩:=hrel
 by_cases z9:(k:Int)<8
 ·obtain⟨ch,cs⟩:=jhL;obtain⟨xh,MJ⟩:∃ x,wk (iz h0.list s.list k) k=x:=⟨_,rfl⟩
  obtain⟨xs,Sc⟩:∃ x,wk s.list k=x:=⟨_,rfl⟩
  rw[MJ]at ch;rw[Sc]at cs;have HX:=Hh (And.intro MJ Sc);clear MJ Sc;go_upto_region 23 with fail
  refine zr 8 (fun wx=>wx.cell? ⟨hg,k,none⟩=some (.int .u32 xh)∧wx.cell? ⟨G,k,none⟩=some (.int .u32 xs)) (by kernel_rfl) (⟨ch,cs⟩) (fun zy=>?_)
  refine Tk 0 rfl zy ?_
  refine Tk 1 rfl zy ?_
  refine Tk 2 rfl zy ?_
  refine Tk 3 rfl zy ?_
  refine Tk 4 rfl zy ?_
  refine Tk 5 rfl zy ?_
  refine Tk 6 rfl zy ?_
  refine Tk 7 rfl zy ?_
  refine To 8 rfl fun K hK=>?_
  exact jaT
 obtain rfl:k=8:=by omega
 rw[show((8:Nat):Int)=8 from rfl]at z9⊢;have hE:we (iz h0.list s.list 8)=(rp xI h0 bs).cells:=by rw[rp,Li.out];rfl
 rw[hE]at am;clear hE;have hRx:=(hR.below (Below.refl _ _)).grown Sp (by intro hc;injection hc;omega);have l0:=am.cell 0 rfl;have l1:=am.cell 1 rfl;have l2:=am.cell 2 rfl;have l3:=am.cell 3 rfl;have l4:=am.cell 4 rfl;have l5:=am.cell 5 rfl;have l6:=am.cell 6 rfl;have l7:=am.cell 7 rfl;go_wp2_with (with_reducible refine zx ?_)
 refine zm rfl _ _ _ rfl rfl (hg+1) (rp xI h0 bs).cells rfl rfl _ _ hRx lH rfl (S8.one _) fun wz kV hgz=>?_
 clear l0 l1 l2 l3 l4 l5 l6 l7
 have rM:Below w.heap.size w wz:=by
  have e1:=HBQ.out;have e2:=Eu.out.2
  exact(e1.grown Sp e1.size (by rintro q ⟨⟩;omega)).grown hgz (Nat.le_trans e1.size Sp.size) (by rintro q ⟨⟩;omega)
 go_wp2_with fail
 refine xU rfl rfl kV rfl rfl lH rfl ?_
 exact⟨rfl,rM⟩
def Xl:S8:=⟨vZ 7640891576956012808,vZ 13503953896175478587,vZ 4354685564936845355,vZ 11912009170470909681,vZ 5840696475078001361,vZ 11170449401992604703,vZ 2270897969802886507,vZ 6620516959819538809⟩
def aL (m:List UInt8) (k:Nat):List UInt8:=(m.drop (64*k)).take 64
def oa (m:List UInt8):Nat→S8
 | 0=>Xl
 | k+1=>rp xI (oa m k) (aL m k)
def gh (x:Int) (d:Int):UInt8:=UInt8.ofNat (x/d%256).toNat
def vD (x:Int):List UInt8:=[gh x 16777216,gh x 65536,gh x 256,gh x 1]
def qP (l:List UInt8):List UInt8:=(oa (uR l) ((uR l).length/64)).list.flatMap vD
theorem TE (x d:Int):zu (gh x d)=.int .u8 (IntKind.u8.wrap (x/d)):=by
 have h:((x/d%256).toNat:Int)=x/d%256:=Int.toNat_of_nonneg (Int.emod_nonneg _ (by decide));have h2:(x/d%256).toNat<256:=by have:=Int.emod_lt_of_pos (x/d) (show(0:Int)<256 by decide);omega
 rw[zu,gh,UInt8.toNat_ofNat',Nat.mod_eq_of_lt h2,h];rfl
theorem tf (l:List UInt8):(qP l).length=32:=rfl
theorem ZQ {m:List UInt8}{k:Nat}(h:64*k+64≤m.length):(aL m k).length=64:=by
 rw[aL,List.length_take,List.length_drop]
 omega
def kP:Nat→List Int
 | 0=>List.replicate 64 0
 | k+1=>(kP k).set k (wk xI k)
theorem Qp:∀ k,(kP k).length=64
 | 0=>rfl
 | k+1=>by rw[kP,List.length_set,Qp k]
def KK:List Int:=xI.take 64
theorem Jj:KK.length=64:=rfl
theorem G3:kP 64=KK:=by kernel_rfl
theorem Sw:((List.range 64).all fun i=>decide (vZ ((yD (rE.take 64) i:Nat):Int)=wk xI i))=true:=by kernel_rfl
theorem PU {i:Nat}(h:i<64):vZ ((yD (rE.take 64) i:Nat):Int)=wk xI i:=by
 have h1:=Sw;rw[List.all_eq_true]at h1
 exact of_decide_eq_true (h1 i (List.mem_range.2 h))
def hP8:Nat→List Int
 | 0=>List.replicate 8 0
 | k+1=>(hP8 k).set k (vZ ((yD vJ k:Nat):Int))
theorem Vg:∀ k,(hP8 k).length=8
 | 0=>rfl
 | k+1=>by rw[hP8,List.length_set,Vg k]
theorem Fw:hP8 8=Xl.list:=by kernel_rfl
def iP8:Nat→List Int
 | 0=>List.replicate 8 0
 | k+1=>(iP8 k).set k (vZ (wk rW k))
theorem Vh:∀ k,(iP8 k).length=8
 | 0=>rfl
 | k+1=>by rw[iP8,List.length_set,Vh k]
theorem G2:iP8 8=Xl.list:=by kernel_rfl
theorem Ji {i:Nat}(h:i<64):wk KK i=wk xI i:=by
 unfold wk KK
 rw[List.getD_eq_getElem?_getD,List.getD_eq_getElem?_getD,List.getElem?_take,if_pos h]
theorem mS {K K' W:List Int}{h:S8}:∀ n,(∀ i,i<n→wk K i=wk K' i)→vf K W h n=vf K' W h n
 | 0,_=>rfl
 | n+1,hn=>by rw[vf,vf,mS n (fun i hi=>hn i (by omega)),hn n (by omega)]
theorem TB (h:S8) (bs:List UInt8):rp KK h bs=rp xI h bs:=by
 unfold rp
 rw[mS 64 (fun i hi=>Ji hi)]
theorem fg (m:List UInt8) (k:Nat):oa m (k+1)=rp xI (oa m k) (aL m k):=rfl
def cK (s:S8) (i:Nat):List UInt8:=(s.list.take i).flatMap vD
theorem Qw (s:S8):cK s 8=s.list.flatMap vD:=by rw[cK,List.take_of_length_le (by rw[S8.list];simp)]
theorem xP (x:Int):(vD x).length=4:=rfl
theorem Zm (s:S8) (i:Nat) (h:i≤8):(cK s i).length=4*i:=by
 obtain rfl | rfl | rfl | rfl | rfl | rfl | rfl | rfl | rfl:i=0∨i=1∨i=2∨i=3∨i=4∨i=5∨i=6∨i=7∨i=8:=by omega
 all_goals rfl
theorem dW (s:S8) (i:Nat) (h:i<8):cK s i++vD (wk s.list i)=cK s (i+1):=by
 have hl:i<s.list.length:=by rw[S8.list];exact h
 rw[cK,cK,List.take_succ_eq_append_getElem hl,List.flatMap_append,List.flatMap_singleton]
 unfold wk
 rw[List.getD_eq_getElem?_getD,List.getElem?_eq_getElem hl];rfl
theorem nC (x d:Int):zu (gh x d)=.int .u8 (x/d%256):=by
 rw[TE,IntKind.wrap_u8]
theorem yQ (x:Int):(vD x).map zu=[.int .u8 (x/16777216%256),.int .u8 (x/65536%256),.int .u8 (x/256%256),.int .u8 (x%256)]:=by
 simp only[vD,List.map_cons,List.map_nil]
 rw[nC,nC,nC,nC,Int.ediv_one]
end Go.Proofs.YtkmlnjociijpgaaGreatDoor
