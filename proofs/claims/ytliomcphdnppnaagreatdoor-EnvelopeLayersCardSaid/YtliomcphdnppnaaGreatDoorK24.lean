/- squeezed. Walks: the schedule of AES, by the -/
import Derived.Test.YtliomcphdnppnaaGreatDoorK23
set_option linter.unusedVariables false
set_option linter.unusedSimpArgs false
set_option maxRecDepth 100000
set_option maxHeartbeats 6400000
namespace Go.Proofs.YtliomcphdnppnaaGreatDoor
open Go.RowKit
theorem nd {w w':World}(h:Below w.heap.size w w') {p:Addr}{v:Value}(hc:w.cell? p=some v):w'.cell? p=some v:=(h.cell (World.block_lt_of_cell? w _ hc)).trans hc
theorem bI:Tryz.zeroCells124=zj (List.replicate 176 0):=by kernel_rfl
theorem YQ (S key:List UInt8) (h:key.length=16):spl (List.replicate 176 0) 0 key=oK S key 0:=by
 rw[spl,oK,h,List.take_zero,List.nil_append,List.drop_replicate];rfl
theorem fF {bg:Nat}{tb:TypeId}{S:List UInt8}(hSl:256≤S.length) {A:Option Addr}{c:Nat}{key:List UInt8}(hk:key.length=16) (w:World) (hS:Blk w bg tb (zj S)) (hK:Src w A (key.map zq)) :
  Calls Tryz.prog 97 #[.pointer (some ⟨bg,0,none⟩),.slice A 16 c] w fun e w'=>e=.returned (.agg (zj (ws S key 160)))∧Below w.heap.size w w':=by
 have hz:=Blk.new w 124 (zj (List.replicate 176 0));have yK:=zu w (.cells (zj (List.replicate 176 0)) 124);have Tx:=hS.alloc (.cells (zj (List.replicate 176 0)) 124);have RJ:=hK.below yK;have uK:=Hh hS.lt;have HK:=Hh (And.intro hk hSl);clear hS hK hSl;go_enter Tryz.func97,Tryz.ntmps97
 go_wp2_with (with_reducible refine ZT ?_)
 unfold zD
 try rw[bI]
 refine qu rfl (.tmp 11) (.tmp 12) rfl w.heap.size 0 16 16 rfl A 16 c key rfl hk.symm RJ (by omega) hz (by rw[List.length_replicate];omega) fun w2 hB tu=>?_
 rw[YQ S key hk]at hB;have QT:=Tx.grown tu (by intro e;injection e with e;have:=uK.out;omega);have zK:=yK.grown tu yK.size (by rintro q ⟨⟩;omega);clear hz yK Tx RJ tu hk;go_wp2_with fail
 go_loopw [5,6] (fun v5 v6 wr=>∃ i:Nat,v6=.int .i64 (i:Int)∧v5=zq (rcU (i-1))∧1≤i∧i≤11∧Blk wr w.heap.size 124 (zj (oK S key (16*(i-1))))∧Blk wr bg tb (zj S)∧Below w.heap.size w wr) (fun _ v6 _=>(11-intOf v6).toNat)
 case atStart=>exact⟨1,rfl,rfl,by omega,by omega,hB,QT,zK⟩
 case round =>
 clear hB QT zK;obtain⟨i,rfl,rfl,qp,hi,hB,hS,hb⟩:=hrel
 by_cases zB:(i:Int)<11
 ·obtain⟨i1,TC⟩:∃ j,i-1=j:=⟨_,rfl⟩
  have W1:IntKind.i64.wrap ((i:Int)-1)=(i1:Int):=by rw[← TC,show((i-1:Nat):Int)=(i:Int)-1 by omega];exact IntWalk.i64_in _ (by omega)
  have l11:(i1:Int)<11:=by omega
  rw[TC]at hB⊢;obtain⟨rc,Qm⟩:∃ u,rcU i1=u:=⟨_,rfl⟩
  have ha:∀ j,j<4→at_ (oK S key (16*i1)) (i1*16+12+j)=at_ (ws S key 160) (16*i-4+j):=fun j hj=>by
   rw[ZQ S key HK.out.1 (by omega) (by omega),show i1*16+12+j=16*i-4+j by omega]
  obtain⟨b0,yK⟩:∃ u,at_ (ws S key 160) (16*i-4+0)=u:=⟨_,rfl⟩
  obtain⟨b1,zJ⟩:∃ u,at_ (ws S key 160) (16*i-4+1)=u:=⟨_,rfl⟩
  obtain⟨b2,zK⟩:∃ u,at_ (ws S key 160) (16*i-4+2)=u:=⟨_,rfl⟩
  obtain⟨b3,xz⟩:∃ u,at_ (ws S key 160) (16*i-4+3)=u:=⟨_,rfl⟩
  obtain⟨s0,fD⟩:∃ u,at_ S b0.toNat=u:=⟨_,rfl⟩
  obtain⟨s1,vl⟩:∃ u,at_ S b1.toNat=u:=⟨_,rfl⟩
  obtain⟨s2,cG⟩:∃ u,at_ S b2.toNat=u:=⟨_,rfl⟩
  obtain⟨s3,Nb⟩:∃ u,at_ S b3.toNat=u:=⟨_,rfl⟩
  have ls:=eM S key HK.out.1 (show 16*i1≤160 by omega)
  have c0:wr.drew.cell? ⟨w.heap.size,i1*16+12,none⟩=some (zq b0):=by
   have:=hB.drew.cell (i1*16+12+0) (yT _ _ (by omega));rwa [ha 0 (by omega),yK]at this
  have c1:wr.drew.cell? ⟨w.heap.size,i1*16+12+1,none⟩=some (zq b1):=by
   have:=hB.drew.cell (i1*16+12+1) (yT _ _ (by omega));rwa [ha 1 (by omega),zJ]at this
  have c2:wr.drew.cell? ⟨w.heap.size,i1*16+12+2,none⟩=some (zq b2):=by
   have:=hB.drew.cell (i1*16+12+2) (yT _ _ (by omega));rwa [ha 2 (by omega),zK]at this
  have c3:wr.drew.cell? ⟨w.heap.size,i1*16+12+3,none⟩=some (zq b3):=by
   have:=hB.drew.cell (i1*16+12+3) (yT _ _ (by omega));rwa [ha 3 (by omega),xz]at this
  have lt (u:UInt8):u.toNat<S.length:=by have:=u.toNat_lt;have:=HK.out.2;omega
  have d0:=hS.drew.cell b0.toNat (yT _ _ (lt b0));have d1:=hS.drew.cell b1.toNat (yT _ _ (lt b1));have d2:=hS.drew.cell b2.toNat (yT _ _ (lt b2));have d3:=hS.drew.cell b3.toNat (yT _ _ (lt b3));rw[fD]at d0;rw[vl]at d1;rw[cG]at d2;rw[Nb]at d3;have q0:(b0.toNat:Int)<256:=by have:=b0.toNat_lt;omega
  have q1:(b1.toNat:Int)<256:=by have:=b1.toNat_lt;omega
  have q2:(b2.toNat:Int)<256:=by have:=b2.toNat_lt;omega
  have q3:(b3.toNat:Int)<256:=by have:=b3.toNat_lt;omega
  have X:=Hh (xE s1 rc)
  have HT:Hid ([s1 ^^^ rc,s2,s3,s0]=[firstT S key i 0,firstT S key i 1,firstT S key i 2,firstT S key i 3]):=by
   rw[Hid]
   simp only[firstT,TC,Nat.reduceAdd,Nat.reduceMod]
   rw[zJ,zK,xz,yK,fD,vl,cG,Nb]
   simp[Qm]
  have Cq:=Hh Qm;rw[Qm];clear ha yK zJ zK xz fD vl cG Nb ls lt Qm;go_upto_region 7 with fail
  refine zw 36 (fun wx=>(wx.cell? ⟨w.heap.size,i1*16+12,none⟩=some (zq b0)∧wx.cell? ⟨w.heap.size,i1*16+12+1,none⟩=some (zq b1)∧wx.cell? ⟨w.heap.size,i1*16+12+2,none⟩=some (zq b2)∧wx.cell? ⟨w.heap.size,i1*16+12+3,none⟩=some (zq b3))∧(wx.cell? ⟨bg,b0.toNat,none⟩=some (zq s0)∧wx.cell? ⟨bg,b1.toNat,none⟩=some (zq s1)∧wx.cell? ⟨bg,b2.toNat,none⟩=some (zq s2)∧wx.cell? ⟨bg,b3.toNat,none⟩=some (zq s3))) (by kernel_rfl) (⟨⟨c0,c1,c2,c3⟩,d0,d1,d2,d3⟩) (fun zy=>?_)
  refine Tk 0 rfl zy ?_
  refine Tk 1 rfl zy ?_
  refine Tk 2 rfl zy ?_
  refine Tk 3 rfl zy ?_
  refine Tk 4 rfl zy ?_
  refine Tk 5 rfl zy ?_
  refine Tk 6 rfl zy ?_
  refine Tk 7 rfl zy ?_
  refine Tk 8 rfl zy ?_
  refine Tk 9 rfl zy ?_
  refine Tk 10 rfl zy ?_
  refine Tk 11 rfl zy ?_
  refine Tk 12 rfl zy ?_
  refine Tk 13 rfl zy ?_
  refine Tk 14 rfl zy ?_
  refine Tk 15 rfl zy ?_
  refine Tk 16 rfl zy ?_
  refine Tk 17 rfl zy ?_
  refine Tk 18 rfl zy ?_
  refine Tk 19 rfl zy ?_
  refine Tk 20 rfl zy ?_
  refine Tk 21 rfl zy ?_
  refine Tk 22 rfl zy ?_
  refine Tk 23 rfl zy ?_
  refine Tk 24 rfl zy ?_
  refine Tk 25 rfl zy ?_
  refine Tk 26 rfl zy ?_
  refine Tk 27 rfl zy ?_
  refine Tk 28 rfl zy ?_
  refine Tk 29 rfl zy ?_
  refine Tk 30 rfl zy ?_
  refine Tk 31 rfl zy ?_
  refine Tk 32 rfl zy ?_
  refine Tk 33 rfl zy ?_
  refine Tk 34 rfl zy ?_
  refine To 35 rfl fun K hK=>?_
  go_simp
  have hT:=Blk.new wr.drew 167 (zj [0,0,0,0]);have ez:=hB.drew.alloc (.cells (zj [0,0,0,0]) 167);have Fp:=hS.drew.alloc (.cells (zj [0,0,0,0]) 167);have ui:=hb.drew.alloc hb.size (.cells (zj [0,0,0,0]) 167);have e4:=zu wr.drew (.cells (zj [0,0,0,0]) 167);clear zy
  refine hK.out _ _ (fun _=>?_) (fun zy=>?_)
  ·exact⟨⟨(nd e4 c0),(nd e4 c1),(nd e4 c2),(nd e4 c3)⟩,(nd e4 d0),(nd e4 d1),(nd e4 d2),(nd e4 d3)⟩
  clear hK K;replace zy:=zy (by decide)
  try simp only[Act.put,zz1,zz2,zz3,zz4,zz5,zz6]
  refine To 36 rfl fun K hK=>?_
  rw[if_pos (by rfl)]
  refine zm _ _ _ rfl _ (zj [s1 ^^^ rc,s2,s3,s0]) rfl (by show Value.agg #[Value.int .u8 (bits .xor .u8 (s1.toNat:Int) (rc.toNat:Int)),zq s2,zq s3,zq s0]=_;rw[X.out];rfl) _ _ hT (by kernel_rfl) rfl (xM _) fun w10 lF wk=>?_
  refine Kz hK ?_
  clear hK K
  refine Wd ?_
  clear zy;rw[HT.out]at lF;obtain⟨M,hM⟩:∃ M,wr.heap.size=M:=⟨_,rfl⟩
  have HM:Hid (w.heap.size<M∧bg<M∧bg<w.heap.size):=by have h1:=hB.lt;have h2:=hS.lt;have h3:=uK.out;rw[Hid];omega
  have qi:=ez.grown wk (by intro e;injection e with e;have:=HM.out;omega);have ed:=Fp.grown wk (by intro e;injection e with e;have:=HM.out;omega);have tj:=ui.grown wk ui.size (by rintro q ⟨⟩;have:=HM.out;omega);rw[hM]at lF;rw[hM];clear wk hT ez Fp ui e4 c0 c1 c2 c3 d0 d1 d2 d3 q0 q1 q2 q3 X HT hB hS hb hM;have D:=Hh (fun b w=>o8 b w);have HI:=Hh (And.intro TC (And.intro qp hi));go_wp2_with fail
  refine(D.out rc _).mono ?_
  rintro e w11 ⟨rfl,rfl⟩
  clear D l11;go_wp2_with fail
  go_loopw [59] (fun v59 wx=>∃ (k:Nat) (tl:List UInt8),v59=.int .i64 (k:Int)∧k≤16∧TRow S key i k tl∧Blk wx M 167 (zj tl)∧Blk wx w.heap.size 124 (zj (oK S key (16*i1+k)))∧Blk wx bg tb (zj S)∧Below w.heap.size w wx) (fun v59 _=>(16-intOf v59).toNat)
  case atStart=>exact⟨0,_,rfl,by omega,TRow.start S key i,lF,qi,ed,tj⟩
  case round =>
  clear lF qi ed tj;obtain⟨k,tl,rfl,hk,hR,hT,hB,hS,hb⟩:=hrel
  by_cases Wr:(k:Int)<16
  ·obtain⟨q,hq⟩:∃ q,k%4=q:=⟨_,rfl⟩
   have t3:(k:Int).tmod 4=(q:Int):=by rw[← hq];exact(Int.ofNat_tmod k 4).symm
   have t3':(k:Int)%4=(q:Int):=by rw[← hq];omega
   have lq:(q:Int)<4:=by omega
   have l11:(i1:Int)<11:=by have:=HI.out;omega
   have lH:=HI.out;obtain⟨v,hv⟩:∃ v,kT S key i k=v:=⟨_,rfl⟩
   obtain⟨u,hu⟩:∃ u,at_ (ws S key 160) (16*i1+k)=u:=⟨_,rfl⟩
   have HN:Hid (at_ (ws S key 160) (16*i+k)=v ^^^ u):=by
    rw[Hid,jw S key HK.out.1 (by omega) (by omega) (by omega),hv,lH.1,hu]
   have HR:=Hh (hR.step HK.out.1 (by omega) (by omega) (by omega));have QK:=Hh hR.len;have hw:=hR.val k (Nat.le_refl _) (by omega);rw[hq,hv]at hw;have ls:=eM S key HK.out.1 (show 16*i1+k≤160 by omega);have c0:=hT.drew.cell q (yT _ _ (by have:=QK.out;omega));have c1:=hB.drew.cell (i1*16+k) (yT _ _ (by omega));rw[hw]at c0;rw[ZQ S key HK.out.1 (by omega) (by omega),show i1*16+k=16*i1+k by omega,hu,show 16*i1+k=i1*16+k by omega]at c1;have X:=Hh (xE v u);have S1:=Hh (Um S key HK.out.1 (show 16*i1+k<160 by omega));rw[show 16+(16*i1+k)=16*i+k by omega,HN.out]at S1;rw[HN.out,hq]at HR;have QG:=Hh ls;have W1:IntKind.i64.wrap ((i:Int)-1)=(i1:Int):=by rw[← lH.1,show((i-1:Nat):Int)=(i:Int)-1 by omega];exact IntWalk.i64_in _ (by omega)
   have HQ:=Hh hq;clear hv hu hR hw lH ls hq;go_upto_region 12 with fail
   refine zw 12 (fun wx=>wx.cell? ⟨M,q,none⟩=some (zq v)∧wx.cell? ⟨w.heap.size,i1*16+k,none⟩=some (zq u)) (by kernel_rfl) (⟨c0,c1⟩) (fun zy=>?_)
   refine Tk 0 rfl zy ?_
   refine Tk 1 rfl zy ?_
   refine Tk 2 rfl zy ?_
   refine Tk 3 rfl zy ?_
   refine Tk 4 rfl zy ?_
   refine Tk 5 rfl zy ?_
   refine Tk 6 rfl zy ?_
   refine Tk 7 rfl zy ?_
   refine Tk 8 rfl zy ?_
   refine Tk 9 rfl zy ?_
   refine Tk 10 rfl zy ?_
   refine Tk 11 rfl zy ?_
   refine To 12 rfl fun K hK=>?_
   rw[if_pos (by rfl)]
   refine yY _ _ _ rfl M q (zq (v ^^^ u)) rfl (by show Value.int .u8 (bits .xor .u8 (v.toNat:Int) (u.toNat:Int))=_;rw[X.out]) _ _ hT.drew wi (by rw[zf,QK.out];omega) rfl fun w9 kj yL=>?_
   refine Kz hK ?_
   clear hK K
   refine Wd ?_
   clear zy;rw[wM]at kj;have kh:=hB.drew.grown yL (by intro e;injection e with e;have:=HM.out;omega);have N9:=hS.drew.grown yL (by intro e;injection e with e;have:=HM.out;omega);have pu:=hb.drew.grown yL hb.size (by rintro q ⟨⟩;have:=HM.out;omega);clear yL c0 c1 hT hB hS hb X;have c0:=kj.drew.cell q (yT _ _ (by rw[List.length_set,QK.out];omega));rw[VE _ _ _ _ (by rw[QK.out];omega),if_pos rfl]at c0;have l11b:(i:Int)<11:=by have:=HI.out;omega
   go_upto_region 13 with fail
   refine zw 8 (fun wx=>wx.cell? ⟨M,q,none⟩=some (zq (v ^^^ u))) (by kernel_rfl) (c0) (fun zy=>?_)
   refine Tk 0 rfl zy ?_
   refine Tk 1 rfl zy ?_
   refine Tk 2 rfl zy ?_
   refine Tk 3 rfl zy ?_
   refine Tk 4 rfl zy ?_
   refine Tk 5 rfl zy ?_
   refine Tk 6 rfl zy ?_
   refine Tk 7 rfl zy ?_
   refine To 8 rfl fun K hK=>?_
   rw[if_pos (by rfl)]
   refine yY _ _ _ rfl w.heap.size (i*16+k) (zq (v ^^^ u)) rfl rfl _ _ kh.drew wi (by rw[zf,QG.out];have:=HI.out;omega) rfl fun w12 oH hg12=>?_
   refine Kz hK ?_
   clear hK K
   refine Wd ?_
   clear zy;rw[wM,show i*16+k=16*i+k by omega,S1.out]at oH;have Pi:=kj.drew.grown hg12 (by intro e;injection e with e;have:=HM.out;omega);have Hj:=N9.drew.grown hg12 (by intro e;injection e with e;have:=HM.out;omega);have yh:=pu.drew.grown hg12 pu.size (by rintro q ⟨⟩;omega);clear hg12 c0 kj kh N9 pu t3 t3' lq l11 l11b W1;go_wp2_with fail
   go_roundw
   case rel=>exact⟨k+1,_,by go_num,by omega,HR.out,Pi,oH,Hj,yh⟩
   case measure=>simp[intOf];omega
  obtain rfl:k=16:=by omega
  rw[show((16:Nat):Int)=16 from rfl]at Wr⊢;have lH:=HI.out;rw[show 16*i1+16=16*((i+1)-1) by omega]at hB;have HD:Hid (zq (rq rc)=zq (rcU (i+1-1))):=by rw[Hid,show i+1-1=i1+1 by omega,rcU,Cq.out]
  clear hR hT lH;go_wp2_with fail
  go_roundw
  case rel=>exact⟨i+1,by go_num,HD.out,by omega,by have:=HI.out;omega,hB,hS,hb⟩
  case measure=>have:=HI.out;simp[intOf];omega
 obtain rfl:i=11:=by omega
 rw[show((11:Nat):Int)=11 from rfl]at zB⊢;clear zB;have hE:oK S key (16*(11-1))=ws S key 160:=by rw[oK];exact List.append_nil _
 rw[hE]at hB;have hl:=uo S key HK.out.1 160;go_wp2_with (with_reducible refine uh 124 ?_)
 refine yq rfl _ _ rfl w.heap.size 0 176 rfl hB (by omega) _ Tryz.underlying124 rfl (by kernel_rfl) ?_
 rw[vS hl];go_wp2_with (with_reducible refine zx ?_)
 refine tw rfl _ _ _ rfl rfl w.heap.size 0 (ws S key 160) rfl rfl hB (by rw[hl];kernel_rfl) (by omega) fun w8 i8 hg8=>?_
 rw[ZS rfl]at i8;have oN:=hb.grown hg8 hb.size (by rintro q ⟨⟩;omega);clear hB hS hb hg8;go_wp2_with fail
 exact zO rfl rfl i8 rfl rfl (by rw[zf,hl];kernel_rfl) rfl ⟨rfl,oN⟩
def iV (key:List UInt8):List UInt8:=uI 256++ws nf key 160
theorem dg {key:List UInt8}(h:key.length=16):(iV key).length=688:=by
 rw[iV,List.length_append,xC,uo _ _ h]
theorem VD {r:List UInt8}{x:Nat}(hx:x<256):at_ (uI 256++r) x=at_ nf x:=by
 have hl:=xC 256;rw[nf,at_,at_,List.getD_eq_getElem?_getD,List.getD_eq_getElem?_getD,List.getElem?_append_left (by omega),List.getElem?_take_of_lt hx]
theorem iQ {S T:List UInt8}(h:∀ x,x<256→at_ S x=at_ T x) (l:List UInt8):vx S l=vx T l:=by
 apply List.map_congr_left
 intro i _
 rw[pd,pd,h _ (UInt8.toNat_lt _)]
theorem aW {S T:List UInt8}(h:∀ x,x<256→at_ S x=at_ T x) (key:List UInt8) (n:Nat):ws S key n=ws T key n:=by
 induction n with
 | zero=>rfl
 | succ n ih =>
 rw[ws,ws,ih];congr 2
 rw[kS,kS,h _ (UInt8.toNat_lt _)]
theorem dO (r l:List UInt8):vx (uI 256++r) l=vx nf l:=iQ (fun _ h=>VD h) l
theorem UT (r key:List UInt8) (n:Nat):ws (uI 256++r) key n=ws nf key n:=aW (fun _ h=>VD h) key n
theorem Sm {key:List UInt8}(h:key.length=16) {i:Nat}(hi:i≤10):oc (iV key) (512+i*16) 16=lJ nf key i:=by
 have hl:=xC 256;have hk:=uo nf key h 160;apply List.ext_getElem (by rw[kF (by rw[dg h];omega),lJ,List.length_map,List.length_range])
 intro k h1 h2
 have Yg:k<16:=by rw[lJ,List.length_map,List.length_range]at h2;exact h2
 rw[← fc h1,← fc h2,Sl Yg,lJ,Rn _ Yg,iV,at_,at_,List.getD_eq_getElem?_getD,List.getD_eq_getElem?_getD,List.getElem?_append_right (by omega),hl,show 512+i*16+k-512=16*i+k by omega]
theorem eJ (S key:List UInt8) (i:Nat):(lJ S key i).length=16:=by simp[lJ]
structure CipS (L S key:List UInt8):Prop where
 len:L.length=688
 key:∀ i,i≤10→oc L (512+i*16) 16=lJ S key i
 box:∀ l,vx L l=vx S l
theorem Gx {key:List UInt8}(h:key.length=16):CipS (iV key) nf key:=⟨dg h,fun i hi=>Sm h hi,fun l=>dO _ l⟩
theorem fE {g cg:Nat}{t:TypeId}{L S key b:List UInt8}(hL:CipS L S key) (rM:b.length=16) (wS:cg≠g) (w:World) (hB:Blk w g t (zj b)) (hC:Blk w cg 126 (zj L)) :
  Calls Tryz.prog 125 #[.pointer (some ⟨cg,0,none⟩),.pointer (some ⟨cg,512,none⟩),.pointer (some ⟨g,0,none⟩)] w fun e w'=>(∃ v,e=.returned v)∧Blk w' g t (zj (kV S key b 10))∧w.grownBy w' (some g):=by
 have HL:=Hh hL;have HN:=Hh wS;have RK:oc L 512 16=lJ S key 0:=hL.key 0 (by omega);have RM:=hL.len;have X0:=Hh (ZC rM (eJ S key 0) w hB);clear wS hL;go_enter Tryz.func125,Tryz.ntmps125
 go_wp2_with (with_reducible refine uh 123 ?_)
 refine yq rfl _ _ rfl cg 512 16 rfl hC (by omega) _ Tryz.underlying123 rfl (by kernel_rfl) ?_
 rw[RK];clear hB rM RK RM;go_wp2_with fail
 refine X0.out.mono ?_
 rintro e w1 ⟨⟨v,rfl⟩,hB,hg⟩
 have ss:=hC.grown hg (by intro e;injection e with e;exact HN.out e.symm);clear hC X0;go_wp2_with fail
 go_loopw [6] (fun v6 wr=>∃ i:Nat,v6=.int .i64 (i:Int)∧1≤i∧i≤11∧Blk wr g t (zj (kV S key b (i-1)))∧Blk wr cg 126 (zj L)∧w.grownBy wr (some g)) (fun v6 _=>(11-intOf v6).toNat)
 case atStart=>exact⟨1,rfl,by omega,by omega,hB,ss,hg⟩
 case round =>
 clear hB ss hg;obtain⟨i,rfl,qp,hi,hB,hC,hg⟩:=hrel
 by_cases zB:(i:Int)<11
 ·obtain⟨l,hl⟩:∃ l,kV S key b (i-1)=l:=⟨_,rfl⟩
  have iC:l.length=16:=by rw[← hl];exact jt _ _ _ _
  rw[hl]at hB
  have HS:Hid (kV S key b (i+1-1)=ri (if i<10 then ph (vx L l) else vx L l) (lJ S key i)):=by
   rw[Hid,show i+1-1=(i-1)+1 by omega,kV,Vk,hl,show i-1+1=i by omega,HL.out.box]
  have SH:=Hh (X8 iC (by have:=HL.out.len;omega) HN.out wr hB hC);have sl:(vx L l).length=16:=by simp[vx]
  have ml:(ph (vx L l)).length=16:=by simp[ph]
  obtain⟨s1,vl⟩:∃ s,vx L l=s:=⟨_,rfl⟩
  rw[vl]at HS SH sl ml;have R9:=Hh (And.intro sl ml);clear hl iC hB sl ml vl;go_wp2_with fail
  refine SH.out.mono ?_
  rintro e w2 ⟨⟨v2,rfl⟩,yF,tu⟩
  have rt:=hC.grown tu (by intro e;injection e with e;exact HN.out e.symm);have qF:=z8 hg tu (.inl rfl);clear SH hC hg tu;go_upto_if 23 with fail
  go_cut [] (fun wx=>Blk wx g t (zj (if i<10 then ph s1 else s1))∧Blk wx cg 126 (zj L)∧w.grownBy wx (some g))
  case first =>
   by_cases h10:(i:Int)<10
   ·have MX:=Hh (Rl R9.out.1 w2 yF);have E:Hid ((if i<10 then ph s1 else s1)=ph s1):=if_pos (by omega);clear yF;go_wp2_with fail
    refine MX.out.mono ?_
    rintro e w4 ⟨⟨v4,rfl⟩,ez,mv⟩
    have TY:=rt.grown mv (by intro e;injection e with e;exact HN.out e.symm);have yP:=z8 qF mv (.inl rfl);clear rt qF mv MX;go_wp2_with fail
    go_meet
    exact⟨by rw[E.out];exact ez,TY,yP⟩
   have E:Hid ((if i<10 then ph s1 else s1)=s1):=if_neg (by omega);go_wp2_with fail
   go_meet
   exact⟨by rw[E.out];exact yF,rt,qF⟩
  case rest =>
  clear yF rt qF;obtain⟨hB,hC,hg⟩:=hcut;obtain⟨l2,og⟩:∃ l,(if i<10 then ph s1 else s1)=l:=⟨_,rfl⟩
  have MA:l2.length=16:=by rw[← og];split;exact R9.out.2;exact R9.out.1
  rw[og]at hB HS;have Fi:oc L (512+i*16) 16=lJ S key i:=HL.out.key i (by omega);have RM:=HL.out.len;have X1:=Hh (ZC MA (eJ S key i) _ hB);clear hB og MA R9;go_wp2_with (with_reducible refine uh 123 ?_)
  refine yq rfl _ _ rfl cg (512+i*16) 16 rfl hC (by omega) _ Tryz.underlying123 rfl (by kernel_rfl) ?_
  rw[Fi];clear Fi RM;go_wp2_with fail
  refine X1.out.mono ?_
  rintro e w5 ⟨⟨v5,rfl⟩,lL,yP⟩
  have TZ:=hC.grown yP (by intro e;injection e with e;exact HN.out e.symm);have xX:=z8 hg yP (.inl rfl);rw[← HS.out]at lL;clear hC hg yP X1 HS;go_wp2_with fail
  go_roundw
  case rel=>exact⟨i+1,by go_num,by omega,by omega,lL,TZ,xX⟩
  case measure=>simp[intOf];omega
 obtain rfl:i=11:=by omega
 rw[show((11:Nat):Int)=11 from rfl]at zB⊢;go_wp2_with fail
 go_end0
 exact⟨⟨_,rfl⟩,hB,hg⟩
end Go.Proofs.YtliomcphdnppnaaGreatDoor
