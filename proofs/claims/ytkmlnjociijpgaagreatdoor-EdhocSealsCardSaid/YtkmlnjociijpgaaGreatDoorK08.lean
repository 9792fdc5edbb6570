/- squeezed. Walks: the schedule of AES, by the -/
import Derived.Test.YtkmlnjociijpgaaGreatDoorK07
set_option linter.unusedVariables false
set_option linter.unusedSimpArgs false
set_option maxRecDepth 100000
set_option maxHeartbeats 6400000
namespace Go.Proofs.YtkmlnjociijpgaaGreatDoor
open Go.RowKit
theorem ua {w w':World}(h:Below w.heap.size w w') {p:Addr}{v:Value}(hc:w.cell? p=some v):w'.cell? p=some v:=(h.cell (World.block_lt_of_cell? w _ hc)).trans hc
theorem Xh:Tryz.zeroCells156=zn (List.replicate 176 0):=by kernel_rfl
theorem UQ (S key:List UInt8) (h:key.length=16):spl (List.replicate 176 0) 0 key=mK S key 0:=by
 rw[spl,mK,h,List.take_zero,List.nil_append,List.drop_replicate];rfl
theorem ay {bg:Nat}{tb:TypeId}{S:List UInt8}(hSl:256≤S.length) {A:Option Addr}{c:Nat}{key:List UInt8}(hk:key.length=16) (w:World) (hS:Blk w bg tb (zn S)) (hK:Src w A (key.map zu)) :
  Calls Tryz.prog 125 #[.pointer (some ⟨bg,0,none⟩),.slice A 16 c] w fun e w'=>e=.returned (.agg (zn (yG S key 160)))∧Below w.heap.size w w':=by
 have hz:=Blk.new w 156 (zn (List.replicate 176 0));have yB:=zX w (.cells (zn (List.replicate 176 0)) 156);have nY:=hS.alloc (.cells (zn (List.replicate 176 0)) 156);have Mm:=hK.below yB;have uH:=Hh hS.lt;have HK:=Hh (And.intro hk hSl);clear hS hK hSl;go_enter Tryz.func125,Tryz.ntmps125
 go_wp2_with (with_reducible refine Vu ?_)
 unfold zZ
 try rw[Xh]
 refine pi rfl (.tmp 11) (.tmp 12) rfl w.heap.size 0 16 16 rfl A 16 c key rfl hk.symm Mm (by omega) hz (by rw[List.length_replicate];omega) fun w2 hB hg2=>?_
 rw[UQ S key hk]at hB;have Rz:=nY.grown hg2 (by intro e;injection e with e;have:=uH.out;omega);have zD:=yB.grown hg2 yB.size (by rintro q ⟨⟩;omega);clear hz yB nY Mm hg2 hk;go_wp2_with fail
 go_loopw [5,6] (fun v5 v6 wr=>∃ i:Nat,v6=.int .i64 (i:Int)∧v5=zu (rcU (i-1))∧1≤i∧i≤11∧Blk wr w.heap.size 156 (zn (mK S key (16*(i-1))))∧Blk wr bg tb (zn S)∧Below w.heap.size w wr) (fun _ v6 _=>(11-intOf v6).toNat)
 case atStart=>exact⟨1,rfl,rfl,by omega,by omega,hB,Rz,zD⟩
 case round =>
 clear hB Rz zD;obtain⟨i,rfl,rfl,Sq,hi,hB,hS,hb⟩:=hrel
 by_cases z9:(i:Int)<11
 ·obtain⟨i1,OF⟩:∃ j,i-1=j:=⟨_,rfl⟩
  have W1:IntKind.i64.wrap ((i:Int)-1)=(i1:Int):=by rw[← OF,show((i-1:Nat):Int)=(i:Int)-1 by omega];exact IntWalk.i64_in _ (by omega)
  have l11:(i1:Int)<11:=by omega
  rw[OF]at hB⊢;obtain⟨rc,ar⟩:∃ u,rcU i1=u:=⟨_,rfl⟩
  have ha:∀ j,j<4→at_ (mK S key (16*i1)) (i1*16+12+j)=at_ (yG S key 160) (16*i-4+j):=fun j hj=>by
   rw[Vr S key HK.out.1 (by omega) (by omega),show i1*16+12+j=16*i-4+j by omega]
  obtain⟨b0,yB⟩:∃ u,at_ (yG S key 160) (16*i-4+0)=u:=⟨_,rfl⟩
  obtain⟨b1,zY⟩:∃ u,at_ (yG S key 160) (16*i-4+1)=u:=⟨_,rfl⟩
  obtain⟨b2,zD⟩:∃ u,at_ (yG S key 160) (16*i-4+2)=u:=⟨_,rfl⟩
  obtain⟨b3,yR⟩:∃ u,at_ (yG S key 160) (16*i-4+3)=u:=⟨_,rfl⟩
  obtain⟨s0,YP⟩:∃ u,at_ S b0.toNat=u:=⟨_,rfl⟩
  obtain⟨s1,xZ⟩:∃ u,at_ S b1.toNat=u:=⟨_,rfl⟩
  obtain⟨s2,oX⟩:∃ u,at_ S b2.toNat=u:=⟨_,rfl⟩
  obtain⟨s3,my⟩:∃ u,at_ S b3.toNat=u:=⟨_,rfl⟩
  have ls:=Zz S key HK.out.1 (show 16*i1≤160 by omega)
  have c0:wr.drew.cell? ⟨w.heap.size,i1*16+12,none⟩=some (zu b0):=by
   have:=hB.drew.cell (i1*16+12+0) (zI _ _ (by omega));rwa [ha 0 (by omega),yB]at this
  have c1:wr.drew.cell? ⟨w.heap.size,i1*16+12+1,none⟩=some (zu b1):=by
   have:=hB.drew.cell (i1*16+12+1) (zI _ _ (by omega));rwa [ha 1 (by omega),zY]at this
  have c2:wr.drew.cell? ⟨w.heap.size,i1*16+12+2,none⟩=some (zu b2):=by
   have:=hB.drew.cell (i1*16+12+2) (zI _ _ (by omega));rwa [ha 2 (by omega),zD]at this
  have c3:wr.drew.cell? ⟨w.heap.size,i1*16+12+3,none⟩=some (zu b3):=by
   have:=hB.drew.cell (i1*16+12+3) (zI _ _ (by omega));rwa [ha 3 (by omega),yR]at this
  have lt (u:UInt8):u.toNat<S.length:=by have:=u.toNat_lt;have:=HK.out.2;omega
  have d0:=hS.drew.cell b0.toNat (zI _ _ (lt b0));have d1:=hS.drew.cell b1.toNat (zI _ _ (lt b1));have d2:=hS.drew.cell b2.toNat (zI _ _ (lt b2));have d3:=hS.drew.cell b3.toNat (zI _ _ (lt b3));rw[YP]at d0;rw[xZ]at d1;rw[oX]at d2;rw[my]at d3;have q0:(b0.toNat:Int)<256:=by have:=b0.toNat_lt;omega
  have q1:(b1.toNat:Int)<256:=by have:=b1.toNat_lt;omega
  have q2:(b2.toNat:Int)<256:=by have:=b2.toNat_lt;omega
  have q3:(b3.toNat:Int)<256:=by have:=b3.toNat_lt;omega
  have X:=Hh (yx s1 rc)
  have HT:Hid ([s1 ^^^ rc,s2,s3,s0]=[firstT S key i 0,firstT S key i 1,firstT S key i 2,firstT S key i 3]):=by
   rw[Hid]
   simp only[firstT,OF,Nat.reduceAdd,Nat.reduceMod]
   rw[zY,zD,yR,yB,YP,xZ,oX,my]
   simp[ar]
  have Mg:=Hh ar;rw[ar];clear ha yB zY zD yR YP xZ oX my ls lt ar;go_upto_region 7 with fail
  refine zr 36 (fun wx=>(wx.cell? ⟨w.heap.size,i1*16+12,none⟩=some (zu b0)∧wx.cell? ⟨w.heap.size,i1*16+12+1,none⟩=some (zu b1)∧wx.cell? ⟨w.heap.size,i1*16+12+2,none⟩=some (zu b2)∧wx.cell? ⟨w.heap.size,i1*16+12+3,none⟩=some (zu b3))∧(wx.cell? ⟨bg,b0.toNat,none⟩=some (zu s0)∧wx.cell? ⟨bg,b1.toNat,none⟩=some (zu s1)∧wx.cell? ⟨bg,b2.toNat,none⟩=some (zu s2)∧wx.cell? ⟨bg,b3.toNat,none⟩=some (zu s3))) (by kernel_rfl) (⟨⟨c0,c1,c2,c3⟩,d0,d1,d2,d3⟩) (fun zy=>?_)
  refine Tk 0 rfl zy ?_
  refine Tk 1 rfl zy ?_
  refine Tk 2 rfl zy ?_
  refine Tk 3 rfl zy ?_
  refine Tk 4 rfl zy ?_
  refine Tk 5 rfl zy ?_
  refine Tk 6 rfl zy ?_
  refine Tk 7 rfl zy ?_
  refine Tk 8 rfl zy ?_
  refine Tk 9 rfl zy ?_
  refine Tk 10 rfl zy ?_
  refine Tk 11 rfl zy ?_
  refine Tk 12 rfl zy ?_
  refine Tk 13 rfl zy ?_
  refine Tk 14 rfl zy ?_
  refine Tk 15 rfl zy ?_
  refine Tk 16 rfl zy ?_
  refine Tk 17 rfl zy ?_
  refine Tk 18 rfl zy ?_
  refine Tk 19 rfl zy ?_
  refine Tk 20 rfl zy ?_
  refine Tk 21 rfl zy ?_
  refine Tk 22 rfl zy ?_
  refine Tk 23 rfl zy ?_
  refine Tk 24 rfl zy ?_
  refine Tk 25 rfl zy ?_
  refine Tk 26 rfl zy ?_
  refine Tk 27 rfl zy ?_
  refine Tk 28 rfl zy ?_
  refine Tk 29 rfl zy ?_
  refine Tk 30 rfl zy ?_
  refine Tk 31 rfl zy ?_
  refine Tk 32 rfl zy ?_
  refine Tk 33 rfl zy ?_
  refine Tk 34 rfl zy ?_
  refine To 35 rfl fun K hK=>?_
  go_simp
  have hT:=Blk.new wr.drew 190 (zn [0,0,0,0]);have ss:=hB.drew.alloc (.cells (zn [0,0,0,0]) 190);have Ib:=hS.drew.alloc (.cells (zn [0,0,0,0]) 190);have xE:=hb.drew.alloc hb.size (.cells (zn [0,0,0,0]) 190);have e4:=zX wr.drew (.cells (zn [0,0,0,0]) 190);clear zy
  refine hK.out _ _ (fun _=>?_) (fun zy=>?_)
  ·exact⟨⟨(ua e4 c0),(ua e4 c1),(ua e4 c2),(ua e4 c3)⟩,(ua e4 d0),(ua e4 d1),(ua e4 d2),(ua e4 d3)⟩
  clear hK K;replace zy:=zy (by decide)
  try simp only[Act.put,zz1,zz2,zz3,zz4,zz5,zz6]
  refine To 36 rfl fun K hK=>?_
  rw[if_pos (by rfl)]
  refine zT _ _ _ rfl _ (zn [s1 ^^^ rc,s2,s3,s0]) rfl (by show Value.agg #[Value.int .u8 (bits .xor .u8 (s1.toNat:Int) (rc.toNat:Int)),zu s2,zu s3,zu s0]=_;rw[X.out];rfl) _ _ hT (by kernel_rfl) rfl (ym _) fun w10 uB yn=>?_
  refine Kz hK ?_
  clear hK K
  refine Wd ?_
  clear zy;rw[HT.out]at uB;obtain⟨M,hM⟩:∃ M,wr.heap.size=M:=⟨_,rfl⟩
  have HM:Hid (w.heap.size<M∧bg<M∧bg<w.heap.size):=by have h1:=hB.lt;have h2:=hS.lt;have h3:=uH.out;rw[Hid];omega
  have aM:=ss.grown yn (by intro e;injection e with e;have:=HM.out;omega);have j4:=Ib.grown yn (by intro e;injection e with e;have:=HM.out;omega);have xN:=xE.grown yn xE.size (by rintro q ⟨⟩;have:=HM.out;omega);rw[hM]at uB;rw[hM];clear yn hT ss Ib xE e4 c0 c1 c2 c3 d0 d1 d2 d3 q0 q1 q2 q3 X HT hB hS hb hM;have D:=Hh (fun b w=>lh b w);have HI:=Hh (And.intro OF (And.intro Sq hi));go_wp2_with fail
  refine(D.out rc _).mono ?_
  rintro e w11 ⟨rfl,rfl⟩
  clear D l11;go_wp2_with fail
  go_loopw [59] (fun v59 wx=>∃ (k:Nat) (tl:List UInt8),v59=.int .i64 (k:Int)∧k≤16∧TRow S key i k tl∧Blk wx M 190 (zn tl)∧Blk wx w.heap.size 156 (zn (mK S key (16*i1+k)))∧Blk wx bg tb (zn S)∧Below w.heap.size w wx) (fun v59 _=>(16-intOf v59).toNat)
  case atStart=>exact⟨0,_,rfl,by omega,TRow.start S key i,uB,aM,j4,xN⟩
  case round =>
  clear uB aM j4 xN;obtain⟨k,tl,rfl,hk,hR,hT,hB,hS,hb⟩:=hrel
  by_cases ae:(k:Int)<16
  ·obtain⟨q,hq⟩:∃ q,k%4=q:=⟨_,rfl⟩
   have t3:(k:Int).tmod 4=(q:Int):=by rw[← hq];exact(Int.ofNat_tmod k 4).symm
   have t3':(k:Int)%4=(q:Int):=by rw[← hq];omega
   have lq:(q:Int)<4:=by omega
   have l11:(i1:Int)<11:=by have:=HI.out;omega
   have kO:=HI.out;obtain⟨v,hv⟩:∃ v,gv S key i k=v:=⟨_,rfl⟩
   obtain⟨u,hu⟩:∃ u,at_ (yG S key 160) (16*i1+k)=u:=⟨_,rfl⟩
   have HN:Hid (at_ (yG S key 160) (16*i+k)=v ^^^ u):=by
    rw[Hid,gL S key HK.out.1 (by omega) (by omega) (by omega),hv,kO.1,hu]
   have HR:=Hh (hR.step HK.out.1 (by omega) (by omega) (by omega));have fC:=Hh hR.len;have hw:=hR.val k (Nat.le_refl _) (by omega);rw[hq,hv]at hw;have ls:=Zz S key HK.out.1 (show 16*i1+k≤160 by omega);have c0:=hT.drew.cell q (zI _ _ (by have:=fC.out;omega));have c1:=hB.drew.cell (i1*16+k) (zI _ _ (by omega));rw[hw]at c0;rw[Vr S key HK.out.1 (by omega) (by omega),show i1*16+k=16*i1+k by omega,hu,show 16*i1+k=i1*16+k by omega]at c1;have X:=Hh (yx v u);have S1:=Hh (QS S key HK.out.1 (show 16*i1+k<160 by omega));rw[show 16+(16*i1+k)=16*i+k by omega,HN.out]at S1;rw[HN.out,hq]at HR;have HLS:=Hh ls;have W1:IntKind.i64.wrap ((i:Int)-1)=(i1:Int):=by rw[← kO.1,show((i-1:Nat):Int)=(i:Int)-1 by omega];exact IntWalk.i64_in _ (by omega)
   have HQ:=Hh hq;clear hv hu hR hw kO ls hq;go_upto_region 12 with fail
   refine zr 12 (fun wx=>wx.cell? ⟨M,q,none⟩=some (zu v)∧wx.cell? ⟨w.heap.size,i1*16+k,none⟩=some (zu u)) (by kernel_rfl) (⟨c0,c1⟩) (fun zy=>?_)
   refine Tk 0 rfl zy ?_
   refine Tk 1 rfl zy ?_
   refine Tk 2 rfl zy ?_
   refine Tk 3 rfl zy ?_
   refine Tk 4 rfl zy ?_
   refine Tk 5 rfl zy ?_
   refine Tk 6 rfl zy ?_
   refine Tk 7 rfl zy ?_
   refine Tk 8 rfl zy ?_
   refine Tk 9 rfl zy ?_
   refine Tk 10 rfl zy ?_
   refine Tk 11 rfl zy ?_
   refine To 12 rfl fun K hK=>?_
   rw[if_pos (by rfl)]
   refine zO _ _ _ rfl M q (zu (v ^^^ u)) rfl (by show Value.int .u8 (bits .xor .u8 (v.toNat:Int) (u.toNat:Int))=_;rw[X.out]) _ _ hT.drew yH (by rw[zg,fC.out];omega) rfl fun w9 rt xt=>?_
   refine Kz hK ?_
   clear hK K
   refine Wd ?_
   clear zy;rw[xS]at rt;have iX:=hB.drew.grown xt (by intro e;injection e with e;have:=HM.out;omega);have PN:=hS.drew.grown xt (by intro e;injection e with e;have:=HM.out;omega);have oV:=hb.drew.grown xt hb.size (by rintro q ⟨⟩;have:=HM.out;omega);clear xt c0 c1 hT hB hS hb X;have c0:=rt.drew.cell q (zI _ _ (by rw[List.length_set,fC.out];omega));rw[Ql _ _ _ _ (by rw[fC.out];omega),if_pos rfl]at c0;have l11b:(i:Int)<11:=by have:=HI.out;omega
   go_upto_region 13 with fail
   refine zr 8 (fun wx=>wx.cell? ⟨M,q,none⟩=some (zu (v ^^^ u))) (by kernel_rfl) (c0) (fun zy=>?_)
   refine Tk 0 rfl zy ?_
   refine Tk 1 rfl zy ?_
   refine Tk 2 rfl zy ?_
   refine Tk 3 rfl zy ?_
   refine Tk 4 rfl zy ?_
   refine Tk 5 rfl zy ?_
   refine Tk 6 rfl zy ?_
   refine Tk 7 rfl zy ?_
   refine To 8 rfl fun K hK=>?_
   rw[if_pos (by rfl)]
   refine zO _ _ _ rfl w.heap.size (i*16+k) (zu (v ^^^ u)) rfl rfl _ _ iX.drew yH (by rw[zg,HLS.out];have:=HI.out;omega) rfl fun w12 hB12 hg12=>?_
   refine Kz hK ?_
   clear hK K
   refine Wd ?_
   clear zy;rw[xS,show i*16+k=16*i+k by omega,S1.out]at hB12;have aP:=rt.drew.grown hg12 (by intro e;injection e with e;have:=HM.out;omega);have C2:=PN.drew.grown hg12 (by intro e;injection e with e;have:=HM.out;omega);have yt:=oV.drew.grown hg12 oV.size (by rintro q ⟨⟩;omega);clear hg12 c0 rt iX PN oV t3 t3' lq l11 l11b W1;go_wp2_with fail
   go_roundw
   case rel=>exact⟨k+1,_,by go_num,by omega,HR.out,aP,hB12,C2,yt⟩
   case measure=>simp[intOf];omega
  obtain rfl:k=16:=by omega
  rw[show((16:Nat):Int)=16 from rfl]at ae⊢;have kO:=HI.out;rw[show 16*i1+16=16*((i+1)-1) by omega]at hB;have HD:Hid (zu (sH rc)=zu (rcU (i+1-1))):=by rw[Hid,show i+1-1=i1+1 by omega,rcU,Mg.out]
  clear hR hT kO;go_wp2_with fail
  go_roundw
  case rel=>exact⟨i+1,by go_num,HD.out,by omega,by have:=HI.out;omega,hB,hS,hb⟩
  case measure=>have:=HI.out;simp[intOf];omega
 obtain rfl:i=11:=by omega
 rw[show((11:Nat):Int)=11 from rfl]at z9⊢;clear z9;have hE:mK S key (16*(11-1))=yG S key 160:=by rw[mK];exact List.append_nil _
 rw[hE]at hB;have hl:=vx S key HK.out.1 160;go_wp2_with (with_reducible refine vy 156 ?_)
 refine zM rfl _ _ rfl w.heap.size 0 176 rfl hB (by omega) _ Tryz.underlying156 rfl (by kernel_rfl) ?_
 rw[xT hl];go_wp2_with (with_reducible refine zx ?_)
 refine xy rfl _ _ _ rfl rfl w.heap.size 0 (yG S key 160) rfl rfl hB (by rw[hl];kernel_rfl) (by omega) fun w8 OZ hg8=>?_
 rw[pH rfl]at OZ;have uk:=jgc;clear hB hS hb hg8;go_wp2_with fail
 exact xU rfl rfl OZ rfl rfl (by rw[zg,hl];kernel_rfl) rfl ⟨rfl,uk⟩
def gy (key:List UInt8):List UInt8:=tF 256++yG ri key 160
theorem ZR {key:List UInt8}(h:key.length=16):(gy key).length=688:=by
 rw[gy,List.length_append,wi,vx _ _ h]
theorem Qk {r:List UInt8}{x:Nat}(hx:x<256):at_ (tF 256++r) x=at_ ri x:=by
 have hl:=wi 256;rw[ri,at_,at_,List.getD_eq_getElem?_getD,List.getD_eq_getElem?_getD,List.getElem?_append_left (by omega),List.getElem?_take_of_lt hx]
theorem ei {S T:List UInt8}(h:∀ x,x<256→at_ S x=at_ T x) (l:List UInt8):x8 S l=x8 T l:=by
 apply List.map_congr_left
 intro i _
 rw[ur,ur,h _ (UInt8.toNat_lt _)]
theorem X7 {S T:List UInt8}(h:∀ x,x<256→at_ S x=at_ T x) (key:List UInt8) (n:Nat):yG S key n=yG T key n:=by
 induction n with
 | zero=>rfl
 | succ n ih =>
 rw[yG,yG,ih];congr 2
 rw[jh,jh,h _ (UInt8.toNat_lt _)]
theorem ZG (r l:List UInt8):x8 (tF 256++r) l=x8 ri l:=ei (fun _ h=>Qk h) l
theorem Pu (r key:List UInt8) (n:Nat):yG (tF 256++r) key n=yG ri key n:=X7 (fun _ h=>Qk h) key n
theorem Nr {key:List UInt8}(h:key.length=16) {i:Nat}(hi:i≤10):oG (gy key) (512+i*16) 16=si ri key i:=by
 have hl:=wi 256;have hk:=vx ri key h 160;apply List.ext_getElem (by rw[gU (by rw[ZR h];omega),si,List.length_map,List.length_range])
 intro k h1 h2
 have ew:k<16:=by rw[si,List.length_map,List.length_range]at h2;exact h2
 rw[← gd h1,← gd h2,Vw ew,si,Va _ ew,gy,at_,at_,List.getD_eq_getElem?_getD,List.getD_eq_getElem?_getD,List.getElem?_append_right (by omega),hl,show 512+i*16+k-512=16*i+k by omega]
theorem Zv (S key:List UInt8) (i:Nat):(si S key i).length=16:=by simp[si]
structure CipS (L S key:List UInt8):Prop where
 len:L.length=688
 key:∀ i,i≤10→oG L (512+i*16) 16=si S key i
 box:∀ l,x8 L l=x8 S l
theorem Bp {key:List UInt8}(h:key.length=16):CipS (gy key) ri key:=⟨ZR h,fun i hi=>Nr h hi,fun l=>ZG _ l⟩
theorem ax {g cg:Nat}{t:TypeId}{L S key b:List UInt8}(hL:CipS L S key) (vV:b.length=16) (xp:cg≠g) (w:World) (hB:Blk w g t (zn b)) (hC:Blk w cg 158 (zn L)) :
  Calls Tryz.prog 160 #[.pointer (some ⟨cg,0,none⟩),.pointer (some ⟨cg,512,none⟩),.pointer (some ⟨g,0,none⟩)] w fun e w'=>(∃ v,e=.returned v)∧Blk w' g t (zn (pz S key b 10))∧w.grownBy w' (some g):=by
 have HL:=Hh hL;have HN:=Hh xp;have AT:oG L 512 16=si S key 0:=hL.key 0 (by omega);have Dc:=hL.len;have X0:=Hh (VY vV (Zv S key 0) w hB);clear xp hL;go_enter Tryz.func160,Tryz.ntmps160
 go_wp2_with (with_reducible refine vy 155 ?_)
 refine zM rfl _ _ rfl cg 512 16 rfl hC (by omega) _ Tryz.underlying155 rfl (by kernel_rfl) ?_
 rw[AT];clear hB vV AT Dc;go_wp2_with fail
 refine X0.out.mono ?_
 rintro e w1 ⟨⟨v,rfl⟩,hB,hg⟩
 have AE:=hC.grown hg (by intro e;injection e with e;exact HN.out e.symm);clear hC X0;go_wp2_with fail
 go_loopw [6] (fun v6 wr=>∃ i:Nat,v6=.int .i64 (i:Int)∧1≤i∧i≤11∧Blk wr g t (zn (pz S key b (i-1)))∧Blk wr cg 158 (zn L)∧w.grownBy wr (some g)) (fun v6 _=>(11-intOf v6).toNat)
 case atStart=>exact⟨1,rfl,by omega,by omega,hB,AE,hg⟩
 case round =>
 clear hB AE hg;obtain⟨i,rfl,Sq,hi,hB,hC,hg⟩:=hrel
 by_cases z9:(i:Int)<11
 ·obtain⟨l,hl⟩:∃ l,pz S key b (i-1)=l:=⟨_,rfl⟩
  have kW:l.length=16:=by rw[← hl];exact o4 _ _ _ _
  rw[hl]at hB
  have HS:Hid (pz S key b (i+1-1)=xA (if i<10 then vQ (x8 L l) else x8 L l) (si S key i)):=by
   rw[Hid,show i+1-1=(i-1)+1 by omega,pz,WG,hl,show i-1+1=i by omega,HL.out.box]
  have SH:=Hh (Sy kW (by have:=HL.out.len;omega) HN.out wr hB hC);have sl:(x8 L l).length=16:=by simp[x8]
  have ml:(vQ (x8 L l)).length=16:=by simp[vQ]
  obtain⟨s1,xZ⟩:∃ s,x8 L l=s:=⟨_,rfl⟩
  rw[xZ]at HS SH sl ml;have oI:=Hh (And.intro sl ml);clear hl kW hB sl ml xZ;go_wp2_with fail
  refine SH.out.mono ?_
  rintro e w2 ⟨⟨v2,rfl⟩,wm,hg2⟩
  have Oa:=hC.grown hg2 (by intro e;injection e with e;exact HN.out e.symm);have sp:=zG hg hg2 (.inl rfl);clear SH hC hg hg2;go_upto_if 23 with fail
  go_cut [] (fun wx=>Blk wx g t (zn (if i<10 then vQ s1 else s1))∧Blk wx cg 158 (zn L)∧w.grownBy wx (some g))
  case first =>
   by_cases h10:(i:Int)<10
   ·have MX:=Hh (N3 oI.out.1 w2 wm);have E:Hid ((if i<10 then vQ s1 else s1)=vQ s1):=if_pos (by omega);clear wm;go_wp2_with fail
    refine MX.out.mono ?_
    rintro e w4 ⟨⟨v4,rfl⟩,ss,hg4⟩
    have mL:=Oa.grown hg4 (by intro e;injection e with e;exact HN.out e.symm);have zK:=zG sp hg4 (.inl rfl);clear Oa sp hg4 MX;go_wp2_with fail
    go_meet
    exact⟨by rw[E.out];exact ss,mL,zK⟩
   have E:Hid ((if i<10 then vQ s1 else s1)=s1):=if_neg (by omega);go_wp2_with fail
   go_meet
   exact⟨by rw[E.out];exact wm,Oa,sp⟩
  case rest =>
  clear wm Oa sp;obtain⟨hB,hC,hg⟩:=hcut;obtain⟨l2,oW⟩:∃ l,(if i<10 then vQ s1 else s1)=l:=⟨_,rfl⟩
  have Rc:l2.length=16:=by rw[← oW];split;exact oI.out.2;exact oI.out.1
  rw[oW]at hB HS;have Ab:oG L (512+i*16) 16=si S key i:=HL.out.key i (by omega);have Dc:=HL.out.len;have X1:=Hh (VY Rc (Zv S key i) _ hB);clear hB oW Rc oI;go_wp2_with (with_reducible refine vy 155 ?_)
  refine zM rfl _ _ rfl cg (512+i*16) 16 rfl hC (by omega) _ Tryz.underlying155 rfl (by kernel_rfl) ?_
  rw[Ab];clear Ab Dc;go_wp2_with fail
  refine X1.out.mono ?_
  rintro e w5 ⟨⟨v5,rfl⟩,ts,zK⟩
  have FQ:=hC.grown zK (by intro e;injection e with e;exact HN.out e.symm);have vt:=zG hg zK (.inl rfl);rw[← HS.out]at ts;clear hC hg zK X1 HS;go_wp2_with fail
  go_roundw
  case rel=>exact⟨i+1,by go_num,by omega,by omega,ts,FQ,vt⟩
  case measure=>simp[intOf];omega
 obtain rfl:i=11:=by omega
 rw[show((11:Nat):Int)=11 from rfl]at z9⊢;exact jcj
end Go.Proofs.YtkmlnjociijpgaaGreatDoor
