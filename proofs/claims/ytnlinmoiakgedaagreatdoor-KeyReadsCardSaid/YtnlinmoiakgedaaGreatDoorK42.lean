/- squeezed. Walks: the law: both sides read th -/
import Derived.Test.YtnlinmoiakgedaaGreatDoorK41
set_option linter.unusedVariables false
set_option linter.unusedSimpArgs false
set_option maxRecDepth 100000
set_option maxHeartbeats 25600000
namespace Go.Proofs.YtnlinmoiakgedaaGreatDoor
open Go.RowKit
def tZ:Lie Itm where
 k:=4
 pos:=by omega
 E:=fun H x c=>∃ ba bc ia ic,c=zg x ba bc ia ic∧IsItem H ba bc ia ic x
 len:=by rintro _ _ _ ⟨_,_,_,_,rfl,_⟩;rfl
 one:=by rintro _ _ _ ⟨_,_,_,_,rfl,_⟩;simp[zg,Value.oneCell']
 mono:=by rintro H K x c hl ⟨ba,bc,ia,ic,e,h⟩;exact⟨ba,bc,ia,ic,e,h.mono hl⟩
theorem Dealt.toG {w w1 w2:World}{H H1 H2:Snap}{g:Nat}(h:Grows w H w1 H1) (hd:Dealt w1 H1 w2 H2 g) (hg:w.heap.size≤g):Grows w H w2 H2 :=
 ⟨h.below.grown hd.grows.grown h.size (by rintro q ⟨⟩;exact hg),h.le.trans hd.le,hd.holds,fun b o hb=>by
  rcases hd.grows.fresh b o hb with h1 | h1
  ·exact h.fresh b o h1
  ·exact .inr (Nat.le_trans h.size h1)⟩
theorem BuildSaid2.is {w w':World}{H:Snap}{ps:List Itm}{e:Ending}(h:BuildSaid2 w H ps e w'):∃ v c Z,e=.returned (.tuple #[v,.int .i64 c])∧Gives w H Z v w':=by
 obtain⟨v,h⟩:=h
 rcases h with ⟨l,h1,h2,_⟩ | ⟨c,h1,_,h2,_⟩
 ·exact⟨v,0,_,h1,h2⟩
 ·exact⟨v,c,_,h1,h2⟩
theorem OwnI.putK {w:World}{base:Nat}{A:Option Addr}{m c:Nat}{H:Snap}{l1 l2:List Itm}{z:Itm}(h:OwnI w base (.slice A m c) H (l1++z::l2)) :
  ∃ g cur,A=some ⟨g,0,none⟩∧base≤g∧Blk w g 26 cur∧l1.length*4+4≤cur.size∧
   ∀ (G:Snap),H.le G→∀ (w':World) (cells:List Value) (y:Itm),ItemsC G cells [y]→Blk w' g 26 (rU cur (l1.length*4) cells)→OwnI w' base (.slice A m c) G (l1++y::l2):=by
 obtain⟨g,cur,e,hb,hB,hs,ZL⟩:=h.put
 refine⟨g,cur,e,hb,hB,hs,fun G hl w' cells y hy hw=>?_⟩
 obtain⟨g',cur',e',_,Wy,_,R0⟩:=(h.mono hl).put;rw[e]at e'
 cases e'
 have:cur'=cur:=by
  unfold Blk at hB Wy
  rw[hB]at Wy;injection Wy with Wy
  injection Wy with Wy
  exact Wy.symm
 subst this
 exact R0 w' cells y hy hw
theorem em {H:Snap}(hTab:Tabs H) {A:Option Addr}{c:Nat}{l:List Int}(hl:IsInts H A c l) {raw:Itm}{ra:Option Addr}{rc:Nat}{rd:Option Addr}{re:Nat}(hraw:IsItem H ra rc rd re raw)
  {B:Option Addr} {bl bc:Nat} {b:List UInt8} (sN:bl=b.length) (hb:IsBytes H B bc b) (which by_ at_:Int) (gV : -9223372036854775808≤by_∧by_≤9223372036854775807) (w:World) (hH:Holds w H) :
  Calls Tryz.prog 3 #[xN raw ra rc rd re,.slice B bl bc,.slice A l.length c,.int .i64 which,.int .i64 by_,.int .i64 at_] w fun e w'=>e=.returned (.bool true)∧Below w.heap.size w w':=by
 have hR:=Blk.new w 26 #[.int .i64 raw.kind,.int .u64 raw.n,.slice ra raw.bytes.length rc,.slice rd raw.items.length re];have ws:=(Grows.refl hH).alloc (zW raw ra rc rd re);have NW:=Hh (fun w=>Tu hl w);have SH:=Hh (fun W=>Xw B bl bc W);have HT:=Hh hTab;have ap:=Hh hraw;have MK:=Hh gV;have HH:=Hh hH;have Ws:=Hh sN;have HB:=Hh hb;have AW:=Hh (mO hTab _ ws.holds);obtain⟨w2,oe⟩:∃ w2,w.alloc (zW raw ra rc rd re)=w2:=⟨_,rfl⟩
 have PI:Hid (w2.heap.size=w.heap.size+1):=by rw[Hid,← oe,zV]
 have PA:=Hh (show w.alloc (.cells #[.int .i64 raw.kind,.int .u64 raw.n,.slice ra raw.bytes.length rc,.slice rd raw.items.length re] 26)=w2 from oe);rw[oe]at hR ws AW;obtain⟨nl,wy⟩:∃ nl,l.length=nl:=⟨_,rfl⟩
 rw[wy]at NW⊢;clear hTab hraw gV hl hH wy sN hb oe;go_enter Tryz.func3,Tryz.ntmps3
 go_wp2_with fail
 try rw[PA.out]
 refine(SH.out _).mono ?_
 rintro e w3 ⟨rfl,rfl⟩
 clear PA SH
 cases hs:decide (bl≤600) with
 | false =>
  go_wp2_with fail
  refine AW.out.mono ?_
  rintro e w4 ⟨rfl,iU⟩
  have yp:=ws.below_ iU;go_wp2_with fail
  go_ret
  exact⟨rfl,yp.below⟩
 | true =>
 clear AW hs;go_wp2_with fail
 refine(NW.out _).mono ?_
 rintro e w4 ⟨rfl,XB,iU⟩
 have wH:=ws.below_ iU;have Qb:H w2.heap.size=none:=HH.out.none_of_ge (by have:=PI.out;omega);have PS:DeckIn w4 w2.heap.size H:=⟨XB,wH.holds,Qb⟩
 have NG:=hR.below iU;have Kv:=Hh wH;have TJ:Hid (w.heap.size≤w2.heap.size∧w.heap.size≠w2.heap.size):=by have:=PI.out;rw[Hid];omega
 have PJ:Hid (w2.heap.size<w4.heap.size):=XB.lt;obtain⟨g,hg⟩:∃ g,w2.heap.size=g:=⟨_,rfl⟩
 rw[hg]at PS TJ PJ⊢;clear XB iU hR ws NW Qb wH hg PI;go_wp2_with fail
 refine(Xn _ PS).mono ?_
 rintro e w5 ⟨k,ka,H5,rfl,yl,bF,Qq⟩
 have pz:=NG.dealt yl TJ.out.2;have hK:=Blk.new w5 33 (xU k ka);replace pz:=pz.alloc (.cells (xU k ka) 33);have hd:=yl.alloc (.cells (xU k ka) 33);have HK:=Hh bF;have HV:=Hh Qq;obtain⟨X,hX⟩:∃ X,tu k=X:=⟨_,rfl⟩
 have HE:=Hh (And.intro (show sM k=X by rw[sM,if_pos Qq,hX]) (And.intro (show vb k=0 by rw[vb,if_pos Qq]) hX));clear yl bF Qq hX PS NG;have c0:=hK.cell 0 rfl;have c1:=hK.cell 1 rfl;have c2:=hK.cell 2 rfl;have c3:=hK.cell 3 rfl;have c4:=hK.cell 4 rfl;have c5:=hK.cell 5 rfl;have c6:=hK.cell 6 rfl;go_wp2_with fail
 refine(qW (HT.out.mono hd.le) HK.out _ hd.holds).mono ?_
 rintro e w11 ⟨v1,rfl,y1,y2,y3,y4,H1,rfl,yp,vt⟩
 rw[HE.out.1]at vt⊢;rw[HE.out.2.1];replace HK:=Hh (HK.out.mono yp.le);replace hK:=(hK.below yp.below).alloc (zW X y1 y2 y3 y4);replace pz:=(pz.below yp.below).alloc (zW X y1 y2 y3 y4)
 have RF:Hid (g<w11.heap.size):=by
  have e1:=PJ.out;have e2:=hd.size;have e3:=yp.size;rw[Hid]
  omega
 have hU:=Blk.new w11 26 #[.int .i64 X.kind,.int .u64 X.n,.slice y1 X.bytes.length y2,.slice y3 X.items.length y4];replace hd:=(hd.grown yp).alloc (zW X y1 y2 y3 y4);have HI:=Hh vt;clear yp vt c0 c1 c2 c3 c4 c5 c6;have c0:=hK.cell 0 rfl;have c1:=hK.cell 1 rfl;have c2:=hK.cell 2 rfl;have c3:=hK.cell 3 rfl;have c4:=hK.cell 4 rfl;have c5:=hK.cell 5 rfl;have c6:=hK.cell 6 rfl;go_wp2_with fail
 refine(hJ (HT.out.mono hd.le) HK.out _ hd.holds).mono ?_
 rintro e w13 ⟨v3,l3,rfl,hf,XD⟩
 rw[HE.out.2.1];rw[if_pos HV.out]at XD;obtain⟨RA,rc3,rfl,uD⟩:=hf.own.form;clear uD;obtain⟨H3,yO,tl,XF⟩:=Fresh.snapB hd.holds hf;clear XF hf;replace HI:=Hh (HI.out.mono yO.le);replace hU:=hU.below yO.below;replace pz:=pz.below yO.below;replace hd:=hd.grown yO;have Me:Hid (w4.heap.size≤w13.heap.size):=hd.size;have HS:=Hh tl;have Jh:=Hh XD;obtain⟨n3,XF⟩:∃ n3,l3.length=n3:=⟨_,rfl⟩
 have MV:=Hh XF;have qz:=Hh (show l3.length≤4096 by rw[XD];exact(uW (wE HV.out)).2.2);have QK:=Hh (show Modest X by rw[← HE.out.2.2];exact uo (wE HV.out));rw[XF];clear yO tl XD XF hK c0 c1 c2 c3 c4 c5 c6;have c0:=hU.cell 0 rfl;have c1:=hU.cell 1 rfl;have c2:=hU.cell 2 rfl;have c3:=hU.cell 3 rfl;go_wp2_with fail
 refine(Xm X _ _ _ _ _ _ _ _ _ _ QK.out HI.out.arg hd.holds).mono ?_
 rintro e w14 ⟨z1,z2,z3,z4,H4,rfl,xH,O8,hO,ND⟩
 replace HI:=Hh (HI.out.mono xH.le);replace HS:=Hh (HS.out.mono xH.le);replace pz:=(pz.below xH.below).alloc (zW X z1 z2 z3 z4)
 have WV:Hid (g<w11.heap.size∧w11.heap.size<w13.heap.size∧g<w13.heap.size):=by
  have e1:=RF.out;have e2:=hU.lt;rw[Hid]
  omega
 replace hU:=(hU.below xH.below).alloc (zW X z1 z2 z3 z4);have hY:=Blk.new w14 26 #[.int .i64 X.kind,.int .u64 X.n,.slice z1 X.bytes.length z2,.slice z3 X.items.length z4];have Pb:=hO.lt;replace hO:=hO.alloc (zW X z1 z2 z3 z4);replace hd:=(hd.grown xH).alloc (zW X z1 z2 z3 z4);have Zn:=Hh O8;have Um:Hid (g<w11.heap.size∧w11.heap.size<w13.heap.size∧g<w13.heap.size∧w13.heap.size≤w14.heap.size):=⟨WV.out.1,WV.out.2.1,WV.out.2.2,xH.size⟩
 clear xH O8 c0 c1 c2 c3;have Zm:Hid (2≤X.items.length∧X.items.length≤12):=by rw[Hid,← HE.out.2.2];exact qh k
 obtain⟨m,hm,Xb⟩:∃ m:Nat,oa at_ (X.items.length:Int)=(m:Int)∧m<X.items.length:=by
  have h:=rN at_ X.items.length (by have:=Zm.out;omega)
  exact⟨(oa at_ X.items.length).toNat,by omega,by omega⟩
 obtain⟨s4,Xc,S9⟩:∃ m:Nat,oa which 4=(m:Int)∧m<4:=by
  have h:=rN which 4 (by omega)
  exact⟨(oa which 4).toNat,by omega,by omega⟩
 obtain⟨l1,zz,l2,nE,cE⟩:∃ l1 zz l2,X.items=l1++zz::l2∧l1.length=m :=
  ⟨X.items.take m,X.items[m],X.items.drop (m+1),by rw[← List.drop_eq_getElem_cons Xb,List.take_append_drop],by rw[List.length_take];omega⟩
 have rl:OwnI (w14.alloc (zW X z1 z2 z3 z4)) w13.heap.size (.slice z3 X.items.length z4) H4 (l1++zz::l2):=by rw[← nE];exact hO
 obtain⟨gy,cur,eN,bC,hC,q9,ZL⟩:=rl.putK;subst eN;have hn:H4 gy=none:=ND gy rfl;have am:=Hh (And.intro ZL q9);have HM:=Hh hm;have P0:=Hh Xc;have Zl:=Hh (And.intro nE cE);have Of:(s4:Int)<4:=by omega
 have eX:(m:Int)<X.items.length:=by omega
 have DI1:=Hh (aG 0 (by omega) aH)
 have gP:Hid (gy≠g∧w14.heap.size≠g∧w11.heap.size≠g∧gy≠w14.heap.size∧gy<w14.heap.size+1∧g<w13.heap.size):=by
  have e1:=Pb gy rfl;have e2:=Um.out;rw[Hid]
  omega
 have gO:Hid (w4.heap.size≤gy∧gy≠w14.heap.size∧gy≠w11.heap.size∧gy≠w.heap.size∧g<w4.heap.size):=by
  have e1:=Pb gy rfl;have e2:=Um.out;have e3:=PJ.out;have e4:=TJ.out;have e5:=Me.out;rw[Hid]
  omega
 have n5:=Hh (And.intro Xb S9);clear Pb ZL q9 rl hO ND hm Xc nE cE Xb S9 bC;obtain⟨wa,V7⟩:∃ wa,wa=w14.alloc (.cells #[.int .i64 X.kind,.int .u64 X.n,.slice z1 X.bytes.length z2,.slice (some ⟨gy,0,none⟩) X.items.length z4] 26):=⟨_,rfl⟩
 replace hd:Dealt w4 H wa H4 g:=by rw[V7];exact hd
 replace hY:Blk wa w14.heap.size 26 #[.int .i64 X.kind,.int .u64 X.n,.slice z1 X.bytes.length z2,.slice (some ⟨gy,0,none⟩) X.items.length z4]:=by rw[V7];exact hY
 replace hU:Blk wa w11.heap.size 26 #[.int .i64 X.kind,.int .u64 X.n,.slice y1 X.bytes.length y2,.slice y3 X.items.length y4]:=by rw[V7];exact hU
 replace pz:Blk wa w.heap.size 26 #[.int .i64 raw.kind,.int .u64 raw.n,.slice ra raw.bytes.length rc,.slice rd raw.items.length re]:=by rw[V7];exact pz
 replace hC:Blk wa gy 26 cur:=by rw[V7];exact hC
 obtain⟨Y,Pi⟩:∃ Y,w14.heap.size=Y:=⟨_,rfl⟩
 obtain⟨U,Pg⟩:∃ U,w11.heap.size=U:=⟨_,rfl⟩
 obtain⟨BS,Mt⟩:∃ BS,w13.heap.size=BS:=⟨_,rfl⟩
 rw[Mt]at am gP;clear Mt;rw[Pi]at hY gP gO;rw[Pg]at hU gP gO;have Mj:=Hh V7.symm;have Mm:=Hh Pi;have Mh:=Hh Pg;clear V7 Pi Pg;go_upto_region 8 with fail
 rw[Mj.out,Mm.out,Mh.out]
 go_cut [] (fun wx=>∃ (Hx:Snap) (u:Itm),Dealt w4 H wx Hx g∧Blk wx Y 26 #[.int .i64 X.kind,.int .u64 X.n,.slice z1 X.bytes.length z2,.slice (some ⟨gy,0,none⟩) X.items.length z4]∧Blk wx U 26 #[.int .i64 X.kind,.int .u64 X.n,.slice y1 X.bytes.length y2,.slice y3 X.items.length y4]∧
   Blk wx w.heap.size 26 #[.int .i64 raw.kind,.int .u64 raw.n,.slice ra raw.bytes.length rc,.slice rd raw.items.length re]∧Hx gy=none∧OwnI wx BS (.slice (some ⟨gy,0,none⟩) X.items.length z4) Hx (l1++u::l2)∧H4.le Hx)
 case first =>
  replace hd:=hd.drew;replace hY:=hY.drew;replace hU:=hU.drew;replace pz:=pz.drew;replace hC:=hC.drew
  refine yt 19 (fun wx=>wx.cell? ⟨Y,3,none⟩=some (.slice (some ⟨gy,0,none⟩) X.items.length z4)) (by kernel_rfl) (hY.cell 3 rfl) (fun zy=>?_)
  refine Zk 0 rfl zy ?_
  refine Zk 1 rfl zy ?_
  refine Zk 2 rfl zy ?_
  refine Zk 3 rfl zy ?_
  refine Zk 4 rfl zy ?_
  refine Zk 5 rfl zy ?_
  refine Zk 7 rfl zy ?_
  refine Zk 11 rfl zy ?_
  refine Zk 14 rfl zy ?_
  refine Zo 6 rfl fun K hK=>?_
  go_simp
  refine(oQ at_ X.items.length (by have:=Zm.out;omega) (by have:=Zm.out;omega) _).mono ?_
  rintro e w16 ⟨rfl,rfl⟩
  rw[HM.out]
  refine hK.out _ _ (fun _=>?_) (fun zy=>?_)
  ·exact hY.cell 3 rfl
  clear hK K;have zy:=zy (by decide)
  try simp only[Act.put,zz1,zz2,zz3,zz4,zz5,zz6]
  refine Zo 8 rfl fun K hK=>?_
  go_simp
  refine(uR by_ MK.out.1 MK.out.2 _ hd.holds).mono ?_
  rintro e w18 ⟨v8,rfl,a1,a2,a3,a4,Ha,rfl,jY,Sj⟩
  replace hn:=jY.none hn hC.lt;replace hY:=hY.below jY.below;replace hU:=hU.below jY.below;replace pz:=pz.below jY.below;replace hC:=hC.below jY.below;replace hd:=hd.grown jY;have VQ:=Hh Sj;have qD:=Hh jY.le;clear jY Sj
  refine hK.out _ _ (fun _=>?_) (fun zy=>?_)
  ·exact hY.cell 3 rfl
  clear hK K;have zy:=zy (by decide)
  try simp only[Act.put,zz1,zz2,zz3,zz4,zz5,zz6]
  refine Zo 9 rfl fun K hK=>?_
  go_simp
  refine(uR 0 (by omega) (by omega) _ hd.holds).mono ?_
  rintro e w19 ⟨v9,rfl,b1,b2,b3,b4,Hb,rfl,Wz,N0⟩
  replace hn:=Wz.none hn hC.lt;replace hY:=hY.below Wz.below;replace hU:=hU.below Wz.below;replace pz:=pz.below Wz.below;replace hC:=hC.below Wz.below;replace hd:=hd.grown Wz;have TK:=Hh N0;replace VQ:=Hh (VQ.out.mono Wz.le);replace qD:=Hh (qD.out.trans Wz.le);clear Wz N0
  refine hK.out _ _ (fun _=>?_) (fun zy=>?_)
  ·exact hY.cell 3 rfl
  clear hK K;have zy:=zy (by decide)
  try simp only[Act.put,zz1,zz2,zz3,zz4,zz5,zz6]
  refine Zo 10 rfl fun K hK=>?_
  go_simp
  refine(tS (A:=none) (c:=0) (l:=[]) rfl (by simp) _ (Src.nil _ _) hd.holds).mono ?_
  rintro e w20 ⟨v10,rfl,d1,d2,d3,d4,Hc,rfl,XQ,N4⟩
  replace hn:=XQ.none hn hC.lt;replace hY:=hY.below XQ.below;replace hU:=hU.below XQ.below;replace pz:=pz.below XQ.below;replace hC:=hC.below XQ.below;replace hd:=hd.grown XQ;have QI:=Hh N4;replace VQ:=Hh (VQ.out.mono XQ.le);replace TK:=Hh (TK.out.mono XQ.le);replace qD:=Hh (qD.out.trans XQ.le);clear XQ N4
  refine hK.out _ _ (fun _=>?_) (fun zy=>?_)
  ·exact hY.cell 3 rfl
  clear hK K;have zy:=zy (by decide)
  try simp only[Act.put,zz1,zz2,zz3,zz4,zz5,zz6]
  refine Zo 12 rfl fun K hK=>?_
  go_simp
  refine(show Calls Tryz.prog 13 #[.pointer (some ⟨g,0,none⟩),.int .i64 1] _ _ from DI1.out _ _ g (HT.out.mono hd.le) hd.deck).mono ?_
  rintro e w22 ⟨v12,x12,rfl,⟨f1,f2,f3,f4,He,rfl,mG,Sk⟩,hjk1,hjk2⟩
  clear hjk1 hjk2;replace hn:=mG.hid hn hC.lt;replace hY:=hY.dealt mG gP.out.2.1;replace hU:=hU.dealt mG gP.out.2.2.1;replace pz:=pz.dealt mG TJ.out.2;replace hC:=hC.dealt mG gP.out.1;replace VQ:=Hh (VQ.out.mono mG.le);replace TK:=Hh (TK.out.mono mG.le);replace QI:=Hh (QI.out.mono mG.le);replace qD:=Hh (qD.out.trans mG.le);have MQ:=Hh Sk;replace hd:=hd.trans mG;clear mG Sk
  refine hK.out _ _ (fun _=>?_) (fun zy=>?_)
  ·exact hY.cell 3 rfl
  clear hK K;have zy:=zy (by decide)
  try simp only[Act.put,zz1,zz2,zz3,zz4,zz5,zz6]
  refine WaysZ.two (i:=13) (j:=15) rfl rfl (by kernel_rfl) (fun K hK=>?_) (fun K hK=>?_)
  ·go_simp
   obtain⟨Hf,eD,T5,TD⟩:=la (L:=tZ) (l:=[zX by_,zX 0,.mk 2 0 [] [],x12]) (Grows.refl hd.holds) ((RowC.one (L:=tZ) ⟨a1,a2,a3,a4,rfl,VQ.out⟩).app ((RowC.one (L:=tZ) ⟨b1,b2,b3,b4,rfl,TK.out⟩).app ((RowC.one (L:=tZ) ⟨d1,d2,d3,d4,rfl,QI.out⟩).app (RowC.one (L:=tZ) ⟨f1,f2,f3,f4,rfl,MQ.out⟩)))) 26 (by simp);replace hn:=eD.none hn hC.lt;replace hY:=hY.below eD.below;replace hU:=hU.below eD.below;replace pz:=pz.below eD.below;replace hC:=hC.below eD.below;replace qD:=Hh (qD.out.trans T5);replace hd:=hd.grown eD;have Oy:=Hh TD;clear eD T5 TD;obtain⟨w23,oZ⟩:∃ w23,w22.alloc (.cells #[.int .i64 (zX by_).kind,.int .u64 ((zX by_).n:Int),.slice a1 (zX by_).bytes.length a2,.slice a3 (zX by_).items.length a4,.int .i64 (zX 0).kind,.int .u64 ((zX 0).n:Int),.slice b1 (zX 0).bytes.length b2,.slice b3 (zX 0).items.length b4,.int .i64 (Itm.mk 2 0 [] []).kind,.int .u64 ((Itm.mk 2 0 [] []).n:Int),.slice d1 (Itm.mk 2 0 [] []).bytes.length d2,.slice d3 (Itm.mk 2 0 [] []).items.length d4,.int .i64 x12.kind,.int .u64 (x12.n:Int),.slice f1 x12.bytes.length f2,.slice f3 x12.items.length f4] 26)=w23:=⟨_,rfl⟩
   replace hd:Dealt w4 H w23 Hf g:=by rw[← oZ];exact hd
   replace hY:Blk w23 Y 26 #[.int .i64 X.kind,.int .u64 X.n,.slice z1 X.bytes.length z2,.slice (some ⟨gy,0,none⟩) X.items.length z4]:=by rw[← oZ];exact hY
   replace hU:Blk w23 U 26 #[.int .i64 X.kind,.int .u64 X.n,.slice y1 X.bytes.length y2,.slice y3 X.items.length y4]:=by rw[← oZ];exact hU
   replace pz:Blk w23 w.heap.size 26 #[.int .i64 raw.kind,.int .u64 raw.n,.slice ra raw.bytes.length rc,.slice rd raw.items.length re]:=by rw[← oZ];exact pz
   replace hC:Blk w23 gy 26 cur:=by rw[← oZ];exact hC
   rw[oZ];clear oZ
   refine hK.out _ _ (fun _=>?_) (fun zy=>?_)
   ·exact hY.cell 3 rfl
   clear hK K;have zy:=zy (by decide)
   try simp only[Act.put,zz1,zz2,zz3,zz4,zz5,zz6]
   refine Zo 15 rfl fun K hK=>?_
   go_simp
   refine(oQ which 4 (by omega) (by omega) _).mono ?_
   rintro e w25 ⟨rfl,rfl⟩
   rw[P0.out]
   refine hK.out _ _ (fun _=>?_) (fun zy=>?_)
   ·exact hY.cell 3 rfl
   clear hK K;have zy:=zy (by decide)
   try simp only[Act.put,zz1,zz2,zz3,zz4,zz5,zz6]
   refine Zk 16 rfl zy ?_
   refine Zo 17 rfl fun K hK=>?_
   obtain⟨gb,go,nH,nz⟩:=Oy.out.at_ (by simp)
   cases nH
   obtain⟨dd,⟨u1,u2,u3,u4,Ux,PW⟩,hc⟩:=nz s4 (by have:=n5.out.2;simpa using this);subst Ux
   generalize [zX by_,zX 0,Itm.mk 2 0 [] [],x12][s4]'_=u at *
   have q0:=hd.holds.cell (hc 0 _ rfl);have q1:=hd.holds.cell (hc 1 _ rfl);have q2:=hd.holds.cell (hc 2 _ rfl);have q3:=hd.holds.cell (hc 3 _ rfl)
   simp only[tZ,Nat.add_zero,Nat.zero_add,← Nat.add_assoc]at q0 q1 q2 q3
   go_simp
   refine hK.out _ _ (fun _=>?_) (fun zy=>?_)
   ·exact hY.cell 3 rfl
   clear hK K;have zy:=zy (by decide)
   try simp only[Act.put,zz1,zz2,zz3,zz4,zz5,zz6]
   refine Zk 18 rfl zy ?_
   refine Zo 19 rfl fun K hK=>?_
   rw[if_pos (by rfl)]
   refine za _ _ _ rfl gy (m*4) _ rfl rfl _ _ hC zw (by have:=am.out.2;rw[Zl.out.2]at this;exact this) (wu _ _ _ _ rfl rfl rfl rfl) fun w29 hC9 hg9=>?_
   refine hK.out _ _ (fun h=>absurd h (by decide)) (fun _=>?_)
   clear hK K
   try simp only[Act.put,zz1,zz2,zz3,zz4,zz5,zz6]
   refine WaysZ.done (by kernel_rfl) ?_
   go_wp2_with fail
   go_meet
   have UA:Blk w29 gy 26 (rU cur (l1.length*4) [.int .i64 u.kind,.int .u64 u.n,.slice u1 u.bytes.length u2,.slice u3 u.items.length u4]):=by rw[Zl.out.2];exact hC9
   have PV:ItemsC Hf [.int .i64 u.kind,.int .u64 u.n,.slice u1 u.bytes.length u2,.slice u3 u.items.length u4] [u]:=by rw[ItemsC];exact⟨u1,u2,u3,u4,[],rfl,PW,by simp[ItemsC]⟩
   exact⟨Hf,u,hd.grownRow (by rintro q ⟨⟩;exact hn) (by rintro q ⟨⟩;exact gO.out.1) gO.out.2.2.2.2 hg9,hY.grown hg9 (by intro hc;injection hc with hc;exact gO.out.2.1 hc),hU.grown hg9 (by intro hc;injection hc with hc;exact gO.out.2.2.1 hc),pz.grown hg9 (by intro hc;injection hc with hc;exact gO.out.2.2.2.1 hc),hn,am.out.1 Hf qD.out _ _ _ PV UA,qD.out⟩
  ·go_simp
   refine(oQ which 4 (by omega) (by omega) _).mono ?_
   rintro e w25 ⟨rfl,rfl⟩
   rw[P0.out]
   refine hK.out _ _ (fun _=>?_) (fun zy=>?_)
   ·exact hY.cell 3 rfl
   clear hK K;have zy:=zy (by decide)
   try simp only[Act.put,zz1,zz2,zz3,zz4,zz5,zz6]
   refine Zo 13 rfl fun K hK=>?_
   go_simp
   obtain⟨Hf,eD,T5,TD⟩:=la (L:=tZ) (l:=[zX by_,zX 0,.mk 2 0 [] [],x12]) (Grows.refl hd.holds) ((RowC.one (L:=tZ) ⟨a1,a2,a3,a4,rfl,VQ.out⟩).app ((RowC.one (L:=tZ) ⟨b1,b2,b3,b4,rfl,TK.out⟩).app ((RowC.one (L:=tZ) ⟨d1,d2,d3,d4,rfl,QI.out⟩).app (RowC.one (L:=tZ) ⟨f1,f2,f3,f4,rfl,MQ.out⟩)))) 26 (by simp);replace hn:=eD.none hn hC.lt;replace hY:=hY.below eD.below;replace hU:=hU.below eD.below;replace pz:=pz.below eD.below;replace hC:=hC.below eD.below;replace qD:=Hh (qD.out.trans T5);replace hd:=hd.grown eD;have Oy:=Hh TD;clear eD T5 TD;obtain⟨w23,oZ⟩:∃ w23,w22.alloc (.cells #[.int .i64 (zX by_).kind,.int .u64 ((zX by_).n:Int),.slice a1 (zX by_).bytes.length a2,.slice a3 (zX by_).items.length a4,.int .i64 (zX 0).kind,.int .u64 ((zX 0).n:Int),.slice b1 (zX 0).bytes.length b2,.slice b3 (zX 0).items.length b4,.int .i64 (Itm.mk 2 0 [] []).kind,.int .u64 ((Itm.mk 2 0 [] []).n:Int),.slice d1 (Itm.mk 2 0 [] []).bytes.length d2,.slice d3 (Itm.mk 2 0 [] []).items.length d4,.int .i64 x12.kind,.int .u64 (x12.n:Int),.slice f1 x12.bytes.length f2,.slice f3 x12.items.length f4] 26)=w23:=⟨_,rfl⟩
   replace hd:Dealt w4 H w23 Hf g:=by rw[← oZ];exact hd
   replace hY:Blk w23 Y 26 #[.int .i64 X.kind,.int .u64 X.n,.slice z1 X.bytes.length z2,.slice (some ⟨gy,0,none⟩) X.items.length z4]:=by rw[← oZ];exact hY
   replace hU:Blk w23 U 26 #[.int .i64 X.kind,.int .u64 X.n,.slice y1 X.bytes.length y2,.slice y3 X.items.length y4]:=by rw[← oZ];exact hU
   replace pz:Blk w23 w.heap.size 26 #[.int .i64 raw.kind,.int .u64 raw.n,.slice ra raw.bytes.length rc,.slice rd raw.items.length re]:=by rw[← oZ];exact pz
   replace hC:Blk w23 gy 26 cur:=by rw[← oZ];exact hC
   rw[oZ];clear oZ
   refine hK.out _ _ (fun _=>?_) (fun zy=>?_)
   ·exact hY.cell 3 rfl
   clear hK K;have zy:=zy (by decide)
   try simp only[Act.put,zz1,zz2,zz3,zz4,zz5,zz6]
   refine Zk 16 rfl zy ?_
   refine Zo 17 rfl fun K hK=>?_
   obtain⟨gb,go,nH,nz⟩:=Oy.out.at_ (by simp)
   cases nH
   obtain⟨dd,⟨u1,u2,u3,u4,Ux,PW⟩,hc⟩:=nz s4 (by have:=n5.out.2;simpa using this);subst Ux
   generalize [zX by_,zX 0,Itm.mk 2 0 [] [],x12][s4]'_=u at *
   have q0:=hd.holds.cell (hc 0 _ rfl);have q1:=hd.holds.cell (hc 1 _ rfl);have q2:=hd.holds.cell (hc 2 _ rfl);have q3:=hd.holds.cell (hc 3 _ rfl)
   simp only[tZ,Nat.add_zero,Nat.zero_add,← Nat.add_assoc]at q0 q1 q2 q3
   go_simp
   refine hK.out _ _ (fun _=>?_) (fun zy=>?_)
   ·exact hY.cell 3 rfl
   clear hK K;have zy:=zy (by decide)
   try simp only[Act.put,zz1,zz2,zz3,zz4,zz5,zz6]
   refine Zk 18 rfl zy ?_
   refine Zo 19 rfl fun K hK=>?_
   rw[if_pos (by rfl)]
   refine za _ _ _ rfl gy (m*4) _ rfl rfl _ _ hC zw (by have:=am.out.2;rw[Zl.out.2]at this;exact this) (wu _ _ _ _ rfl rfl rfl rfl) fun w29 hC9 hg9=>?_
   refine hK.out _ _ (fun h=>absurd h (by decide)) (fun _=>?_)
   clear hK K
   try simp only[Act.put,zz1,zz2,zz3,zz4,zz5,zz6]
   refine WaysZ.done (by kernel_rfl) ?_
   go_wp2_with fail
   go_meet
   have UA:Blk w29 gy 26 (rU cur (l1.length*4) [.int .i64 u.kind,.int .u64 u.n,.slice u1 u.bytes.length u2,.slice u3 u.items.length u4]):=by rw[Zl.out.2];exact hC9
   have PV:ItemsC Hf [.int .i64 u.kind,.int .u64 u.n,.slice u1 u.bytes.length u2,.slice u3 u.items.length u4] [u]:=by rw[ItemsC];exact⟨u1,u2,u3,u4,[],rfl,PW,by simp[ItemsC]⟩
   exact⟨Hf,u,hd.grownRow (by rintro q ⟨⟩;exact hn) (by rintro q ⟨⟩;exact gO.out.1) gO.out.2.2.2.2 hg9,hY.grown hg9 (by intro hc;injection hc with hc;exact gO.out.2.1 hc),hU.grown hg9 (by intro hc;injection hc with hc;exact gO.out.2.2.1 hc),pz.grown hg9 (by intro hc;injection hc with hc;exact gO.out.2.2.2.1 hc),hn,am.out.1 Hf qD.out _ _ _ PV UA,qD.out⟩
 case rest =>
  have P6:Hid (U≠g∧Y≠g):=⟨gP.out.2.2.1,gP.out.2.1⟩
  clear hd pz hn hC hY hU gP am HM P0 Zl Of eX n5 Mj Mm Mh Um WV RF;obtain⟨Hx,u,hd,hY,hU,pz,hn,hO,tw⟩:=hcut;obtain⟨Hy,lq,Nk,Nh,gd,Mp,Mr,iW⟩:=hO.snap hd.holds (fun q hq=>by cases hq;exact hn);replace hd:=hd.snap lq Nk Nh (fun q hq=>by cases hq;exact gO.out.1) (Nat.le_refl _) gO.out.2.2.2.2;have XJ:=tw.trans lq;obtain⟨yy,QD⟩:∃ yy,Itm.mk X.kind X.n X.bytes (l1++u::l2)=yy:=⟨_,rfl⟩
  replace hY:Blk wc Y 26 #[.int .i64 yy.kind,.int .u64 yy.n,.slice z1 yy.bytes.length z2,.slice (some ⟨gy,0,none⟩) yy.items.length z4]:=by rw[← QD];rw[gd]at hY;exact hY
  have N5:IsItem Hy z1 z2 (some ⟨gy,0,none⟩) z4 yy:=by
   have hb:=HI.out.bounds;rw[← QD,IsItem]
   exact⟨⟨hb.1,hb.2.1,hb.2.2.1,Mp,Mr⟩,Zn.out.mono XJ,iW⟩
  have XK:=Hh N5;replace HI:=Hh (HI.out.mono XJ);replace HS:=Hh (HS.out.mono XJ);clear hn hO lq Nk Nh gd Mp Mr iW QD tw XJ Zn N5;obtain⟨OJ,Pa⟩:=Zm.out;obtain⟨csX,Nc,Nx⟩:=HI.out.row.src;have On:=Hh (And.intro Nc (Src.of_row Nx hd.holds));obtain⟨rr,jm,cH,Q6⟩:∃ r,oa by_ 12=r∧0≤r∧r<12:=⟨_,rfl,rN by_ 12 (by omega)⟩
  have Oz:=Hh (And.intro cH Q6);have HM:=Hh jm;have W6:IntKind.i64.wrap (rr-6)=rr-6:=IntWalk.i64_in _ (by omega);clear Nc Nx jm cH Q6 OJ Pa;have c3:=hU.cell 3 rfl;go_wp2_with (at_builtin;refine ye ?_)
  refine yw rfl _ (.tmp 75) rfl wc.heap.size (.slice none 0 0) Hy [] rfl (OwnI.nil _ _ _) _ _ _ csX X.items rfl rfl On.out.1 On.out.2 (by have:=Zm.out.2;simp;omega) (Nat.le_refl _) fun v' w7 xK hg7 hat7=>?_
  rw[List.nil_append]at xK;obtain⟨VA,vc,rfl,uD⟩:=xK.form;have wj:=yo hg7;have sa:∀ q,(Value.slice VA X.items.length vc).ownBlock=some q→Hy q=none:=fun q hq=>hd.holds.none_of_ge (xK.lt q hq).1
  have NK:=hU.below wj;have NR:=hY.below wj;have NH:=pz.below wj;have yG:=hd.grown (Grows.of_below hd.holds wj);have Mk:=Hh hd.deck.deck.lt;have U5:Hid (w4.heap.size≤wc.heap.size):=hd.size;have qE:Hid (U<wc.heap.size∧Y<wc.heap.size∧w.heap.size<wc.heap.size):=⟨hU.lt,hY.lt,pz.lt⟩
  have RG:Hid (wc.heap.size≤w7.heap.size):=wj.size;clear uD hg7 hat7 wj On hU hY pz hd c3;go_wp2_with fail
  refine(oQ by_ 12 (by omega) (by omega) _).mono ?_
  rintro e w8 ⟨rfl,rfl⟩
  rw[HM.out];go_wp2_with fail
  refine(uR (rr-6) (by have:=Oz.out;omega) (by have:=Oz.out;omega) _ yG.holds).mono ?_
  rintro e w8 ⟨v8,rfl,a1,a2,a3,a4,Ha,rfl,jY,Sj⟩
  have Ve:∀ q,(Value.slice VA X.items.length vc).ownBlock=some q→Ha q=none:=fun q hq=>jY.none (sa q hq) (xK.lt q hq).2
  have o5:=(xK.below jY.below).mono jY.le;have NL:=NK.below jY.below;have rV:=NR.below jY.below;have NI:=NH.below jY.below;have wL:=yG.grown jY;have MO:=Hh Sj;have Ml:Hid (wc.heap.size≤w8.heap.size):=Nat.le_trans RG.out jY.below.size;replace XK:=Hh (XK.out.mono jY.le);replace HI:=Hh (HI.out.mono jY.le);replace HS:=Hh (HS.out.mono jY.le);clear sa xK NK NR NH yG jY Sj W6;go_wp2_with fail
  refine(show Calls Tryz.prog 13 #[.pointer (some ⟨g,0,none⟩),.int .i64 1] _ _ from DI1.out _ _ g (HT.out.mono wL.le) wL.deck).mono ?_
  rintro e w9 ⟨v9,x9,rfl,⟨f1,f2,f3,f4,He,rfl,mG,Sk⟩,hjk1,hjk2⟩
  have V5:∀ q,(Value.slice VA X.items.length vc).ownBlock=some q→He q=none:=fun q hq=>mG.hid (Ve q hq) (o5.lt q hq).2
  have Ni:g<wc.heap.size:=Mk.out;have rD:=(o5.dealt mG Ni).mono mG.le;have NN:=NL.dealt mG P6.out.1;have X9:=rV.dealt mG P6.out.2;have NJ:=NI.dealt mG TJ.out.2;have uC:=wL.trans mG;have U4:Hid (ItemsC He (zg (zX (rr-6)) a1 a2 a3 a4++zg x9 f1 f2 f3 f4) [zX (rr-6),x9]):=(ItemsC.one (MO.out.mono mG.le)).app (ItemsC.one Sk);replace XK:=Hh (XK.out.mono mG.le);replace HI:=Hh (HI.out.mono mG.le);replace HS:=Hh (HS.out.mono mG.le);obtain⟨p9,Nw⟩:∃ p,zX (rr-6)=p:=⟨_,rfl⟩
  rw[Nw]at U4⊢;have tz:=rD.alloc (.cells (zg p9 a1 a2 a3 a4++zg x9 f1 f2 f3 f4).toArray 26);have RX:=NN.alloc (.cells (zg p9 a1 a2 a3 a4++zg x9 f1 f2 f3 f4).toArray 26);have Rd:=X9.alloc (.cells (zg p9 a1 a2 a3 a4++zg x9 f1 f2 f3 f4).toArray 26);have RQ:=NJ.alloc (.cells (zg p9 a1 a2 a3 a4++zg x9 f1 f2 f3 f4).toArray 26);have um:=uC.alloc (.cells (zg p9 a1 a2 a3 a4++zg x9 f1 f2 f3 f4).toArray 26);have gh:wc.heap.size≤w9.heap.size:=Nat.le_trans Ml.out mG.size;clear hjk1 hjk2 mG Sk Ve o5 NL rV NI wL rD NN X9 NJ uC Nw MO;go_wp2_with (at_builtin;refine ye ?_)
  refine yw rfl (.tmp 76) (.tmp 83) rfl wc.heap.size (.slice VA X.items.length vc) He X.items rfl tz _ 2 _ (zg p9 a1 a2 a3 a4++zg x9 f1 f2 f3 f4) [p9,x9] rfl rfl U4.out (Src.new _ _ _ _ rfl _ rfl) (by have:=Zm.out.2;simp;omega) (by rw[zV];omega) fun v' w11' dh hg11 hat11=>?_
  obtain⟨VB,vd,rfl,uD⟩:=dh.form;obtain⟨L,hL⟩:∃ L,X.items++[p9,x9]=L:=⟨_,rfl⟩
  have RO:L.length≤14:=by have:=Zm.out.2;rw[← hL];simp;omega
  rw[hL]at dh⊢;have nD:∀ q,(Value.slice VA X.items.length vc).ownBlock=some q→wc.heap.size≤q:=fun q hq=>(tz.lt q hq).1
  have ZD:=um.grownRow V5 (fun q hq=>Nat.le_trans U5.out (nD q hq)) gO.out.2.2.2.2 hg11;have Ra:=RX.grown hg11 (fun hc=>by have:=nD _ hc;have:=qE.out;omega);have Re:=Rd.grown hg11 (fun hc=>by have:=nD _ hc;have:=qE.out;omega);have RR:=RQ.grown hg11 (fun hc=>by have:=nD _ hc;have:=qE.out;omega)
  have Wj:∀ q',VB.map (·.block)=some q'→He q'=none:=fun q' nJ=>by
   rcases hat11 with h | ⟨g',h1,h2⟩
   ·exact V5 q' (by rw[← h];exact vJ nJ)
   ·rw[vJ nJ]at h1;injection h1 with h1
    subst h1
    exact um.holds.none_of_ge h2
  obtain⟨Hb,TY,Nj,Ng,Ns,Mo,Mq,Nf⟩:=dh.snap ZD.holds Wj;have lz:=ZD.snap TY Nj Ng (B:=wc.heap.size) (fun q hq=>(dh.lt q (vJ hq)).1) U5.out gO.out.2.2.2.2;have ZM:IsRowI Hb VB vd L:=⟨Mo,Mq,Nf⟩
  have WT:=Hh ZM;have R9:=Hh RO;replace XK:=Hh (XK.out.mono TY);replace HI:=Hh (HI.out.mono TY);replace HS:=Hh (HS.out.mono TY);clear uD hL dh hat11 hg11 nD um RX Rd RQ V5 Wj TY Nj Ng Ns Mo Mq Nf ZD ZM RO tz U4 gh Ni;have my:=Dealt.toG Kv.out lz TJ.out.1;replace ap:=Hh (ap.out.mono my.le);replace HB:=Hh (HB.out.mono my.le);clear lz;go_wp2_with fail
  refine(oO (HT.out.mono my.le) WT.out (by have:=R9.out;omega) _ my.holds).mono ?_
  intro e w13' ho
  obtain⟨v13,c13,Z,rfl,e1,e2,e3,e4,Jd,rfl,pE,Mz⟩:=BuildSaid2.is ho;have Z8:=(Ra.below pE.below).alloc (zW Z e1 e2 e3 e4);have pF:=(Re.below pE.below).alloc (zW Z e1 e2 e3 e4);have Z4:=(RR.below pE.below).alloc (zW Z e1 e2 e3 e4);have ZB:=Blk.new w13' 26 #[.int .i64 Z.kind,.int .u64 Z.n,.slice e1 Z.bytes.length e2,.slice e3 Z.items.length e4];have dg:=(my.trans pE).alloc (zW Z e1 e2 e3 e4);have MP:=Hh Mz;replace XK:=Hh (XK.out.mono pE.le);replace HI:=Hh (HI.out.mono pE.le);replace HS:=Hh (HS.out.mono pE.le);replace ap:=Hh (ap.out.mono pE.le);replace HB:=Hh (HB.out.mono pE.le);clear ho Ra Re RR pE Mz my WT R9;have r0:=Z4.cell 0 rfl;have r1:=Z4.cell 1 rfl;have r2:=Z4.cell 2 rfl;have r3:=Z4.cell 3 rfl;have u0:=Z8.cell 0 rfl;have u1:=Z8.cell 1 rfl;have u2:=Z8.cell 2 rfl
  have u3:=Z8.cell 3 rfl;have q0:=pF.cell 0 rfl;have q1:=pF.cell 1 rfl;have q2:=pF.cell 2 rfl;have q3:=pF.cell 3 rfl;have zz0:=ZB.cell 0 rfl;have zz1:=ZB.cell 1 rfl;have zz2:=ZB.cell 2 rfl;have zz3:=ZB.cell 3 rfl;go_wp2_with fail
  obtain⟨MG,WY,UU,UZ⟩:=la (L:=tZ) (l:=[raw,X,yy,Z]) dg ((RowC.one (L:=tZ) ⟨ra,rc,rd,re,rfl,ap.out⟩).app ((RowC.one (L:=tZ) ⟨y1,y2,y3,y4,rfl,HI.out⟩).app ((RowC.one (L:=tZ) ⟨z1,z2,_,z4,rfl,XK.out⟩).app (RowC.one (L:=tZ) ⟨e1,e2,e3,e4,rfl,MP.out⟩)))) 26 (by simp);obtain⟨xs,XI⟩:∃ xs,[raw,X,yy,Z]=xs:=⟨_,rfl⟩
  have PC:Hid (xs.length=4):=by rw[Hid,← XI];rfl
  rw[XI,zV]at UZ;have OD:=Hh UZ;replace HS:=Hh (HS.out.mono UU);replace HB:=Hh (HB.out.mono UU);clear XI UZ UU dg r0 r1 r2 r3 u0 u1 u2 u3 q0 q1 q2 q3 zz0 zz1 zz2 zz3 Z8 pF Z4 ZB ap HI XK MP Mk U5 qE RG Ml P6 gO Oz HM Me Zm QK HK;go_loopw [94] (fun v94 wr=>∃ (j:Nat) (Hr:Snap),j≤4∧v94=.int .i64 (j:Int)∧Grows w H wr Hr∧MG.le Hr) (fun v94 _=>4-(intOf v94).toNat)
  case atStart=>exact⟨0,MG,by omega,rfl,WY,Snap.le.refl _⟩
  case round =>
   clear WY;obtain⟨j,Hr,hj,rfl,uT,qS⟩:=hrel;have HJ:=Hh hj;have tC:=Hh qS;clear hj qS
   by_cases yi:j<4
   ·have sD:(j:Int)<4:=by omega
    obtain⟨gb,go,nH,nz⟩:=OD.out.at_ (by rw[PC.out];omega)
    cases nH
    obtain⟨d,hd,hc⟩:=nz j (by rw[PC.out];exact yi);obtain⟨m1,m2,m3,m4,hd,T0⟩:=hd;subst hd
    generalize xs[j]'(by rw[PC.out];exact yi)=x at *
    have r0:=uT.holds.cell (tC.out.cell (hc 0 _ rfl));have r1:=uT.holds.cell (tC.out.cell (hc 1 _ rfl));have r2:=uT.holds.cell (tC.out.cell (hc 2 _ rfl));have r3:=uT.holds.cell (tC.out.cell (hc 3 _ rfl))
    simp only[tZ,Nat.add_zero,Nat.zero_add,← Nat.add_assoc]at r0 r1 r2 r3
    have iR:=Hh (T0.mono tC.out);have hP:=Blk.new wr 26 #[.int .i64 x.kind,.int .u64 x.n,.slice m1 x.bytes.length m2,.slice m3 x.items.length m4];have ws:=uT.alloc (zW x m1 m2 m3 m4);have lG:=Hh yi;clear nz hc T0 uT yi;go_wp2_with fail
    refine(nP (HT.out.mono ws.le) iR.out _ ws.holds).mono ?_
    intro e w20 ho
    obtain⟨k1,ka1,cd1,Kn,rfl,nG,jP,tG⟩:=FromOut.is ws.holds ho;have qD:=Hh (tC.out.trans jP.le);replace iR:=Hh (iR.out.mono jP.le);replace hP:=(hP.below jP.below).alloc (.cells (xU k1 ka1) 33);have hU:=Blk.new w20 33 (xU k1 ka1);replace ws:=(ws.trans jP).alloc (.cells (xU k1 ka1) 33);have Ui:=Hh tG;have SK:=Hh nG;clear ho jP tG nG r0 r1 r2 r3;have p0:=hP.cell 0 rfl;have p1:=hP.cell 1 rfl;have p2:=hP.cell 2 rfl;have p3:=hP.cell 3 rfl;go_wp2_with fail
    refine(pZ (HT.out.mono ws.le) iR.out _ ws.holds).mono ?_
    intro e w21 ho
    obtain⟨k2,ka2,cd2,Ko,rfl,Vb,kv,sE⟩:=FromOut.is ws.holds ho;obtain⟨rfl,rfl⟩:=SK.out.eq Vb;replace qD:=Hh (qD.out.trans kv.le);replace hU:=(hU.below kv.below).alloc (.cells (xU k2 ka2) 33);have hV:=Blk.new w21 33 (xU k2 ka2);replace Ui:=Hh (Ui.out.mono kv.le);replace ws:=(ws.trans kv).alloc (.cells (xU k2 ka2) 33);have Oo:=Hh sE;clear ho kv sE Vb p0 p1 p2 p3 SK iR hP;have p0:=hU.cell 0 rfl;have p1:=hU.cell 1 rfl;have p2:=hU.cell 2 rfl;have p3:=hU.cell 3 rfl;have p4:=hU.cell 4 rfl;have p5:=hU.cell 5 rfl;have p6:=hU.cell 6 rfl;have q0:=hV.cell 0 rfl;have q1:=hV.cell 1 rfl;have q2:=hV.cell 2 rfl;have q3:=hV.cell 3 rfl;have q4:=hV.cell 4 rfl;have q5:=hV.cell 5 rfl;have q6:=hV.cell 6 rfl;go_wp2_with fail
    refine(kL Ui.out Oo.out _ ws.holds).mono ?_
    rintro e w22 ⟨rfl,ZC⟩
    replace ws:=ws.below_ ZC;clear ZC p0 p1 p2 p3 p4 p5 p6 q0 q1 q2 q3 q4 q5 q6 hU hV;go_wp2_with fail
    go_roundw
    case rel=>exact⟨j+1,_,lG.out,by go_num,ws,qD.out⟩
    case measure=>have:=lG.out;simp[intOf];omega
   ·have sD:¬ (j:Int)<4:=by omega
    obtain rfl:j=4:=by have:=HJ.out;omega
    rw[show((4:Nat):Int)=4 from rfl]at sD⊢;clear yi;go_wp2_with fail
    refine(aO _ uT.holds MV.out.symm (HS.out.mono tC.out) (by have:=qz.out;omega) at_ by_).mono ?_
    rintro e w30 ⟨SA,sc,sl,rfl,Je,UB,S6⟩
    have Yt:=tC.out.trans UB.le;obtain⟨Oj,RM,OY,Ua⟩:=la (L:=ZP) (l:=[b,l3,sl]) (uT.trans UB) ((RowC.one (L:=ZP) ⟨B,bc,rfl,HB.out.mono Yt⟩).app ((RowC.one (L:=ZP) ⟨RA,rc3,rfl,HS.out.mono Yt⟩).app (RowC.one (L:=ZP) ⟨SA,sc,rfl,S6⟩))) 23 (by simp);obtain⟨ns,Q4⟩:∃ ns,sl.length=ns:=⟨_,rfl⟩
    have VF:Grows w H (w30.alloc (.cells #[.slice B bl bc,.slice RA n3 rc3,.slice SA ns sc] 23)) Oj:=by rw[Ws.out,← MV.out,← Q4];exact RM
    obtain⟨ms,Q3⟩:∃ ms,[b,l3,sl]=ms:=⟨_,rfl⟩
    have Ou:Hid (ms.length=3):=by rw[Hid,← Q3];rfl
    rw[Q3]at Ua;have OE:=Hh Ua;rw[Q4];clear Yt RM OY Ua Q4 Q3 uT UB S6;go_wp2_with fail
    go_loopw [126] (fun v126 wx=>∃ (j:Nat) (Hx:Snap),j≤3∧v126=.int .i64 (j:Int)∧Grows w H wx Hx∧Oj.le Hx) (fun v126 _=>3-(intOf v126).toNat)
    case atStart=>exact⟨0,Oj,by omega,rfl,VF,Snap.le.refl _⟩
    case round =>
     clear VF HJ tC;obtain⟨j,Hr,hj,rfl,uT,qS⟩:=hrel;have HJ:=Hh hj;have tC:=Hh qS;clear hj qS sD
     by_cases yi:j<3
     ·have sD:(j:Int)<3:=by omega
      obtain⟨gb,go,nH,nz⟩:=OE.out.at_ (by rw[Ou.out];omega)
      cases nH
      obtain⟨d,hd,hc⟩:=nz j (by rw[Ou.out];exact yi);obtain⟨CA,cc,hd,T0⟩:=hd;subst hd
      generalize ms[j]'(by rw[Ou.out];exact yi)=x at *
      have r0:=uT.holds.cell (tC.out.cell (hc 0 _ rfl));rw[show 0+(j*ZP.k+0)=j from by show 0+(j*1+0)=j;omega]at r0;have iR:=Hh (T0.mono tC.out);have lG:=Hh yi;obtain⟨nx,T8⟩:∃ n,x.length=n:=⟨_,rfl⟩
      have MW:=Hh T8.symm;rw[T8]at r0;clear nz hc T0 yi T8;go_wp2_with fail
      refine(cz (HT.out.mono uT.le) _ uT.holds MW.out iR.out).mono ?_
      intro e w20 ho
      obtain⟨k1,ka1,cd1,Kn,rfl,nG,jP,tG⟩:=DecKOut.is uT.holds ho;have qD:=Hh (tC.out.trans jP.le);replace iR:=Hh (iR.out.mono jP.le);have hU:=Blk.new w20 33 (xU k1 ka1);have ws:=(uT.trans jP).alloc (.cells (xU k1 ka1) 33);have Ui:=Hh tG;have SK:=Hh nG;clear ho jP tG nG r0 uT;go_wp2_with fail
      refine(gz (HT.out.mono ws.le) _ ws.holds MW.out iR.out).mono ?_
      intro e w21 ho
      obtain⟨k2,ka2,cd2,Ko,rfl,Vb,kv,sE⟩:=DecKOut.is ws.holds ho;obtain⟨rfl,rfl⟩:=SK.out.eq Vb;replace qD:=Hh (qD.out.trans kv.le);replace hU:=(hU.below kv.below).alloc (.cells (xU k2 ka2) 33);have hV:=Blk.new w21 33 (xU k2 ka2);replace Ui:=Hh (Ui.out.mono kv.le);replace ws:=(ws.trans kv).alloc (.cells (xU k2 ka2) 33);have Oo:=Hh sE;clear ho kv sE Vb SK iR;have p0:=hU.cell 0 rfl;have p1:=hU.cell 1 rfl;have p2:=hU.cell 2 rfl;have p3:=hU.cell 3 rfl;have p4:=hU.cell 4 rfl;have p5:=hU.cell 5 rfl;have p6:=hU.cell 6 rfl;have q0:=hV.cell 0 rfl;have q1:=hV.cell 1 rfl;have q2:=hV.cell 2 rfl;have q3:=hV.cell 3 rfl;have q4:=hV.cell 4 rfl;have q5:=hV.cell 5 rfl;have q6:=hV.cell 6 rfl;go_wp2_with fail
      refine(kL Ui.out Oo.out _ ws.holds).mono ?_
      rintro e w22 ⟨rfl,ZC⟩
      replace ws:=ws.below_ ZC;clear ZC p0 p1 p2 p3 p4 p5 p6 q0 q1 q2 q3 q4 q5 q6 hU hV;go_wp2_with fail
      go_roundw
      case rel=>exact⟨j+1,_,lG.out,by go_num,ws,qD.out⟩
      case measure=>have:=lG.out;simp[intOf];omega
     ·have sD:¬ (j:Int)<3:=by omega
      have L5:=Hh (HT.out.mono uT.le);clear yi;go_wp2_with fail
      refine(mO L5.out _ uT.holds).mono ?_
      rintro e w4 ⟨rfl,iU⟩
      have yp:=uT.below_ iU;go_wp2_with fail
      go_ret
      exact⟨rfl,yp.below⟩
end Go.Proofs.YtnlinmoiakgedaaGreatDoor
