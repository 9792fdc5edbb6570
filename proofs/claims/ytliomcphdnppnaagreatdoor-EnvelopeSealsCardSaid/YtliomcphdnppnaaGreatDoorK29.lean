/- squeezed. Walks: the schedule of AES, by the -/
import Derived.Test.YtliomcphdnppnaaGreatDoorK28
set_option linter.unusedVariables false
set_option linter.unusedSimpArgs false
set_option maxRecDepth 100000
set_option maxHeartbeats 6400000
namespace Go.Proofs.YtliomcphdnppnaaGreatDoor
open Go.RowKit
theorem uV {w w':World}(h:Below w.heap.size w w') {p:Addr}{v:Value}(hc:w.cell? p=some v):w'.cell? p=some v:=(h.cell (World.block_lt_of_cell? w _ hc)).trans hc
theorem cq:Tryz.zeroCells124=zr (List.replicate 176 0):=by kernel_rfl
theorem Zp (S key:List UInt8) (h:key.length=16):spl (List.replicate 176 0) 0 key=ob S key 0:=by
 rw[spl,ob,h,List.take_zero,List.nil_append,List.drop_replicate];rfl
theorem fw {bg:Nat}{tb:TypeId}{S:List UInt8}(hSl:256≤S.length) {A:Option Addr}{c:Nat}{key:List UInt8}(hk:key.length=16) (w:World) (hS:Blk w bg tb (zr S)) (hK:Src w A (key.map zv)) :
  Calls Tryz.prog 97 #[.pointer (some ⟨bg,0,none⟩),.slice A 16 c] w fun e w'=>e=.returned (.agg (zr (yK S key 160)))∧Below w.heap.size w w':=by
 have hz:=Blk.new w 124 (zr (List.replicate 176 0));have xz:=zq w (.cells (zr (List.replicate 176 0)) 124);have oz:=hS.alloc (.cells (zr (List.replicate 176 0)) 124);have Hd:=hK.below xz;have rI:=Hh hS.lt;have HK:=Hh (And.intro hk hSl);clear hS hK hSl;go_enter Tryz.func97,Tryz.ntmps97
 go_wp2_with (with_reducible refine ay ?_)
 unfold yy
 try rw[cq]
 refine rR rfl (.tmp 11) (.tmp 12) rfl w.heap.size 0 16 16 rfl A 16 c key rfl hk.symm Hd (by omega) hz (by rw[List.length_replicate];omega) fun w2 hB qJ=>?_
 rw[Zp S key hk]at hB;have Sg:=oz.grown qJ (by intro e;injection e with e;have:=rI.out;omega);have zG:=xz.grown qJ xz.size (by rintro q ⟨⟩;omega);clear hz xz oz Hd qJ hk;go_wp2_with fail
 go_loopw [5,6] (fun v5 v6 wr=>∃ i:Nat,v6=.int .i64 (i:Int)∧v5=zv (rcU (i-1))∧1≤i∧i≤11∧Blk wr w.heap.size 124 (zr (ob S key (16*(i-1))))∧Blk wr bg tb (zr S)∧Below w.heap.size w wr) (fun _ v6 _=>(11-intOf v6).toNat)
 case atStart=>exact⟨1,rfl,rfl,by omega,by omega,hB,Sg,zG⟩
 case round =>
 clear hB Sg zG;obtain⟨i,rfl,rfl,rN,hi,hB,hS,hb⟩:=hrel
 by_cases zB:(i:Int)<11
 ·obtain⟨i1,Uz⟩:∃ j,i-1=j:=⟨_,rfl⟩
  have W1:IntKind.i64.wrap ((i:Int)-1)=(i1:Int):=by rw[← Uz,show((i-1:Nat):Int)=(i:Int)-1 by omega];exact IntWalk.i64_in _ (by omega)
  have l11:(i1:Int)<11:=by omega
  rw[Uz]at hB⊢;obtain⟨rc,dW⟩:∃ u,rcU i1=u:=⟨_,rfl⟩
  have ha:∀ j,j<4→at_ (ob S key (16*i1)) (i1*16+12+j)=at_ (yK S key 160) (16*i-4+j):=fun j hj=>by
   rw[au S key HK.out.1 (by omega) (by omega),show i1*16+12+j=16*i-4+j by omega]
  obtain⟨b0,xz⟩:∃ u,at_ (yK S key 160) (16*i-4+0)=u:=⟨_,rfl⟩
  obtain⟨b1,zH⟩:∃ u,at_ (yK S key 160) (16*i-4+1)=u:=⟨_,rfl⟩
  obtain⟨b2,zG⟩:∃ u,at_ (yK S key 160) (16*i-4+2)=u:=⟨_,rfl⟩
  obtain⟨b3,xn⟩:∃ u,at_ (yK S key 160) (16*i-4+3)=u:=⟨_,rfl⟩
  obtain⟨s0,WT⟩:∃ u,at_ S b0.toNat=u:=⟨_,rfl⟩
  obtain⟨s1,vT⟩:∃ u,at_ S b1.toNat=u:=⟨_,rfl⟩
  obtain⟨s2,dw⟩:∃ u,at_ S b2.toNat=u:=⟨_,rfl⟩
  obtain⟨s3,Pp⟩:∃ u,at_ S b3.toNat=u:=⟨_,rfl⟩
  have ls:=fK S key HK.out.1 (show 16*i1≤160 by omega)
  have c0:wr.drew.cell? ⟨w.heap.size,i1*16+12,none⟩=some (zv b0):=by
   have:=hB.drew.cell (i1*16+12+0) (zK _ _ (by omega));rwa [ha 0 (by omega),xz]at this
  have c1:wr.drew.cell? ⟨w.heap.size,i1*16+12+1,none⟩=some (zv b1):=by
   have:=hB.drew.cell (i1*16+12+1) (zK _ _ (by omega));rwa [ha 1 (by omega),zH]at this
  have c2:wr.drew.cell? ⟨w.heap.size,i1*16+12+2,none⟩=some (zv b2):=by
   have:=hB.drew.cell (i1*16+12+2) (zK _ _ (by omega));rwa [ha 2 (by omega),zG]at this
  have c3:wr.drew.cell? ⟨w.heap.size,i1*16+12+3,none⟩=some (zv b3):=by
   have:=hB.drew.cell (i1*16+12+3) (zK _ _ (by omega));rwa [ha 3 (by omega),xn]at this
  have lt (u:UInt8):u.toNat<S.length:=by have:=u.toNat_lt;have:=HK.out.2;omega
  have d0:=hS.drew.cell b0.toNat (zK _ _ (lt b0));have d1:=hS.drew.cell b1.toNat (zK _ _ (lt b1));have d2:=hS.drew.cell b2.toNat (zK _ _ (lt b2));have d3:=hS.drew.cell b3.toNat (zK _ _ (lt b3));rw[WT]at d0;rw[vT]at d1;rw[dw]at d2;rw[Pp]at d3;have q0:(b0.toNat:Int)<256:=by have:=b0.toNat_lt;omega
  have q1:(b1.toNat:Int)<256:=by have:=b1.toNat_lt;omega
  have q2:(b2.toNat:Int)<256:=by have:=b2.toNat_lt;omega
  have q3:(b3.toNat:Int)<256:=by have:=b3.toNat_lt;omega
  have X:=Hh (yn s1 rc)
  have HT:Hid ([s1 ^^^ rc,s2,s3,s0]=[firstT S key i 0,firstT S key i 1,firstT S key i 2,firstT S key i 3]):=by
   rw[Hid]
   simp only[firstT,Uz,Nat.reduceAdd,Nat.reduceMod]
   rw[zH,zG,xn,xz,WT,vT,dw,Pp]
   simp[dW]
  have On:=Hh dW;rw[dW];clear ha xz zH zG xn WT vT dw Pp ls lt dW;go_upto_region 7 with fail
  refine zw 36 (fun wx=>(wx.cell? ⟨w.heap.size,i1*16+12,none⟩=some (zv b0)∧wx.cell? ⟨w.heap.size,i1*16+12+1,none⟩=some (zv b1)∧wx.cell? ⟨w.heap.size,i1*16+12+2,none⟩=some (zv b2)∧wx.cell? ⟨w.heap.size,i1*16+12+3,none⟩=some (zv b3))∧(wx.cell? ⟨bg,b0.toNat,none⟩=some (zv s0)∧wx.cell? ⟨bg,b1.toNat,none⟩=some (zv s1)∧wx.cell? ⟨bg,b2.toNat,none⟩=some (zv s2)∧wx.cell? ⟨bg,b3.toNat,none⟩=some (zv s3))) (by kernel_rfl) (⟨⟨c0,c1,c2,c3⟩,d0,d1,d2,d3⟩) (fun zy=>?_)
  refine Tk 0 rfl zy ?_
  refine Tk 1 rfl zy ?_
  refine Tk 2 rfl zy ?_
  refine Tk 3 rfl zy ?_
  refine Tk 4 rfl zy ?_
  refine Tk 5 rfl zy ?_
  refine Tk 6 rfl zy ?_
  refine Tk 7 rfl zy ?_
  refine Tk 8 rfl zy ?_
  refine Tk 9 rfl zy ?_
  refine Tk 10 rfl zy ?_
  refine Tk 11 rfl zy ?_
  refine Tk 12 rfl zy ?_
  refine Tk 13 rfl zy ?_
  refine Tk 14 rfl zy ?_
  refine Tk 15 rfl zy ?_
  refine Tk 16 rfl zy ?_
  refine Tk 17 rfl zy ?_
  refine Tk 18 rfl zy ?_
  refine Tk 19 rfl zy ?_
  refine Tk 20 rfl zy ?_
  refine Tk 21 rfl zy ?_
  refine Tk 22 rfl zy ?_
  refine Tk 23 rfl zy ?_
  refine Tk 24 rfl zy ?_
  refine Tk 25 rfl zy ?_
  refine Tk 26 rfl zy ?_
  refine Tk 27 rfl zy ?_
  refine Tk 28 rfl zy ?_
  refine Tk 29 rfl zy ?_
  refine Tk 30 rfl zy ?_
  refine Tk 31 rfl zy ?_
  refine Tk 32 rfl zy ?_
  refine Tk 33 rfl zy ?_
  refine Tk 34 rfl zy ?_
  refine To 35 rfl fun K hK=>?_
  go_simp
  have hT:=Blk.new wr.drew 167 (zr [0,0,0,0]);have aI:=hB.drew.alloc (.cells (zr [0,0,0,0]) 167);have Hu:=hS.drew.alloc (.cells (zr [0,0,0,0]) 167);have sK:=hb.drew.alloc hb.size (.cells (zr [0,0,0,0]) 167);have e4:=zq wr.drew (.cells (zr [0,0,0,0]) 167);clear zy
  refine hK.out _ _ (fun _=>?_) (fun zy=>?_)
  ·exact⟨⟨(uV e4 c0),(uV e4 c1),(uV e4 c2),(uV e4 c3)⟩,(uV e4 d0),(uV e4 d1),(uV e4 d2),(uV e4 d3)⟩
  clear hK K;replace zy:=zy (by decide)
  try simp only[Act.put,zz1,zz2,zz3,zz4,zz5,zz6]
  refine To 36 rfl fun K hK=>?_
  rw[if_pos (by rfl)]
  refine zk _ _ _ rfl _ (zr [s1 ^^^ rc,s2,s3,s0]) rfl (by show Value.agg #[Value.int .u8 (bits .xor .u8 (s1.toNat:Int) (rc.toNat:Int)),zv s2,zv s3,zv s0]=_;rw[X.out];rfl) _ _ hT (by kernel_rfl) rfl (ym _) fun w10 pC yY=>?_
  refine Kz hK ?_
  clear hK K
  refine Wd ?_
  clear zy;rw[HT.out]at pC;obtain⟨M,hM⟩:∃ M,wr.heap.size=M:=⟨_,rfl⟩
  have HM:Hid (w.heap.size<M∧bg<M∧bg<w.heap.size):=by have h1:=hB.lt;have h2:=hS.lt;have h3:=rI.out;rw[Hid];omega
  have gd:=aI.grown yY (by intro e;injection e with e;have:=HM.out;omega);have Uq:=Hu.grown yY (by intro e;injection e with e;have:=HM.out;omega);have rC:=sK.grown yY sK.size (by rintro q ⟨⟩;have:=HM.out;omega);rw[hM]at pC;rw[hM];clear yY hT aI Hu sK e4 c0 c1 c2 c3 d0 d1 d2 d3 q0 q1 q2 q3 X HT hB hS hb hM;have D:=Hh (fun b w=>oT b w);have HI:=Hh (And.intro Uz (And.intro rN hi));go_wp2_with fail
  refine(D.out rc _).mono ?_
  rintro e w11 ⟨rfl,rfl⟩
  clear D l11;go_wp2_with fail
  go_loopw [59] (fun v59 wx=>∃ (k:Nat) (tl:List UInt8),v59=.int .i64 (k:Int)∧k≤16∧TRow S key i k tl∧Blk wx M 167 (zr tl)∧Blk wx w.heap.size 124 (zr (ob S key (16*i1+k)))∧Blk wx bg tb (zr S)∧Below w.heap.size w wx) (fun v59 _=>(16-intOf v59).toNat)
  case atStart=>exact⟨0,_,rfl,by omega,TRow.start S key i,pC,gd,Uq,rC⟩
  case round =>
  clear pC gd Uq rC;obtain⟨k,tl,rfl,hk,hR,hT,hB,hS,hb⟩:=hrel
  by_cases dp:(k:Int)<16
  ·obtain⟨q,hq⟩:∃ q,k%4=q:=⟨_,rfl⟩
   have t3:(k:Int).tmod 4=(q:Int):=by rw[← hq];exact(Int.ofNat_tmod k 4).symm
   have t3':(k:Int)%4=(q:Int):=by rw[← hq];omega
   have lq:(q:Int)<4:=by omega
   have l11:(i1:Int)<11:=by have:=HI.out;omega
   have nS:=HI.out;obtain⟨v,hv⟩:∃ v,lR S key i k=v:=⟨_,rfl⟩
   obtain⟨u,hu⟩:∃ u,at_ (yK S key 160) (16*i1+k)=u:=⟨_,rfl⟩
   have HN:Hid (at_ (yK S key 160) (16*i+k)=v ^^^ u):=by
    rw[Hid,kx S key HK.out.1 (by omega) (by omega) (by omega),hv,nS.1,hu]
   have HR:=Hh (hR.step HK.out.1 (by omega) (by omega) (by omega));have fa:=Hh hR.len;have hw:=hR.val k (Nat.le_refl _) (by omega);rw[hq,hv]at hw;have ls:=fK S key HK.out.1 (show 16*i1+k≤160 by omega);have c0:=hT.drew.cell q (zK _ _ (by have:=fa.out;omega));have c1:=hB.drew.cell (i1*16+k) (zK _ _ (by omega));rw[hw]at c0;rw[au S key HK.out.1 (by omega) (by omega),show i1*16+k=16*i1+k by omega,hu,show 16*i1+k=i1*16+k by omega]at c1;have X:=Hh (yn v u);have S1:=Hh (XJ S key HK.out.1 (show 16*i1+k<160 by omega));rw[show 16+(16*i1+k)=16*i+k by omega,HN.out]at S1;rw[HN.out,hq]at HR;have S9:=Hh ls;have W1:IntKind.i64.wrap ((i:Int)-1)=(i1:Int):=by rw[← nS.1,show((i-1:Nat):Int)=(i:Int)-1 by omega];exact IntWalk.i64_in _ (by omega)
   have HQ:=Hh hq;clear hv hu hR hw nS ls hq;go_upto_region 12 with fail
   refine zw 12 (fun wx=>wx.cell? ⟨M,q,none⟩=some (zv v)∧wx.cell? ⟨w.heap.size,i1*16+k,none⟩=some (zv u)) (by kernel_rfl) (⟨c0,c1⟩) (fun zy=>?_)
   refine Tk 0 rfl zy ?_
   refine Tk 1 rfl zy ?_
   refine Tk 2 rfl zy ?_
   refine Tk 3 rfl zy ?_
   refine Tk 4 rfl zy ?_
   refine Tk 5 rfl zy ?_
   refine Tk 6 rfl zy ?_
   refine Tk 7 rfl zy ?_
   refine Tk 8 rfl zy ?_
   refine Tk 9 rfl zy ?_
   refine Tk 10 rfl zy ?_
   refine Tk 11 rfl zy ?_
   refine To 12 rfl fun K hK=>?_
   rw[if_pos (by rfl)]
   refine yW _ _ _ rfl M q (zv (v ^^^ u)) rfl (by show Value.int .u8 (bits .xor .u8 (v.toNat:Int) (u.toNat:Int))=_;rw[X.out]) _ _ hT.drew yM (by rw[zo,fa.out];omega) rfl fun w9 nU xr=>?_
   refine Kz hK ?_
   clear hK K
   refine Wd ?_
   clear zy;rw[xl]at nU;have ly:=hB.drew.grown xr (by intro e;injection e with e;have:=HM.out;omega);have MW:=hS.drew.grown xr (by intro e;injection e with e;have:=HM.out;omega);have nV:=hb.drew.grown xr hb.size (by rintro q ⟨⟩;have:=HM.out;omega);clear xr c0 c1 hT hB hS hb X;have c0:=nU.drew.cell q (zK _ _ (by rw[List.length_set,fa.out];omega));rw[Xg _ _ _ _ (by rw[fa.out];omega),if_pos rfl]at c0;have l11b:(i:Int)<11:=by have:=HI.out;omega
   go_upto_region 13 with fail
   refine zw 8 (fun wx=>wx.cell? ⟨M,q,none⟩=some (zv (v ^^^ u))) (by kernel_rfl) (c0) (fun zy=>?_)
   refine Tk 0 rfl zy ?_
   refine Tk 1 rfl zy ?_
   refine Tk 2 rfl zy ?_
   refine Tk 3 rfl zy ?_
   refine Tk 4 rfl zy ?_
   refine Tk 5 rfl zy ?_
   refine Tk 6 rfl zy ?_
   refine Tk 7 rfl zy ?_
   refine To 8 rfl fun K hK=>?_
   rw[if_pos (by rfl)]
   refine yW _ _ _ rfl w.heap.size (i*16+k) (zv (v ^^^ u)) rfl rfl _ _ ly.drew yM (by rw[zo,S9.out];have:=HI.out;omega) rfl fun w12 hB12 hg12=>?_
   refine Kz hK ?_
   clear hK K
   refine Wd ?_
   clear zy;rw[xl,show i*16+k=16*i+k by omega,S1.out]at hB12;have RS:=nU.drew.grown hg12 (by intro e;injection e with e;have:=HM.out;omega);have JK:=MW.drew.grown hg12 (by intro e;injection e with e;have:=HM.out;omega);have RV:=nV.drew.grown hg12 nV.size (by rintro q ⟨⟩;omega);clear hg12 c0 nU ly MW nV t3 t3' lq l11 l11b W1;go_wp2_with fail
   go_roundw
   case rel=>exact⟨k+1,_,by go_num,by omega,HR.out,RS,hB12,JK,RV⟩
   case measure=>simp[intOf];omega
  obtain rfl:k=16:=by omega
  rw[show((16:Nat):Int)=16 from rfl]at dp⊢;have nS:=HI.out;rw[show 16*i1+16=16*((i+1)-1) by omega]at hB;have HD:Hid (zv (tY rc)=zv (rcU (i+1-1))):=by rw[Hid,show i+1-1=i1+1 by omega,rcU,On.out]
  clear hR hT nS;go_wp2_with fail
  go_roundw
  case rel=>exact⟨i+1,by go_num,HD.out,by omega,by have:=HI.out;omega,hB,hS,hb⟩
  case measure=>have:=HI.out;simp[intOf];omega
 obtain rfl:i=11:=by omega
 rw[show((11:Nat):Int)=11 from rfl]at zB⊢;clear zB;have hE:ob S key (16*(11-1))=yK S key 160:=by rw[ob];exact List.append_nil _
 rw[hE]at hB;have hl:=wT S key HK.out.1 160;go_wp2_with (with_reducible refine wU 124 ?_)
 refine zN rfl _ _ rfl w.heap.size 0 176 rfl hB (by omega) _ Tryz.underlying124 rfl (by kernel_rfl) ?_
 rw[xm hl];go_wp2_with (with_reducible refine zx ?_)
 refine yA rfl _ _ _ rfl rfl w.heap.size 0 (yK S key 160) rfl rfl hB (by rw[hl];kernel_rfl) (by omega) fun w8 aJ hg8=>?_
 rw[qv rfl]at aJ;have rm:=hb.grown hg8 hb.size (by rintro q ⟨⟩;omega);clear hB hS hb hg8;go_wp2_with fail
 exact zR rfl rfl aJ rfl rfl (by rw[zo,hl];kernel_rfl) rfl ⟨rfl,rm⟩
def lS (key:List UInt8):List UInt8:=uO 256++yK tJ key 160
theorem em {key:List UInt8}(h:key.length=16):(lS key).length=688:=by
 rw[lS,List.length_append,ww,wT _ _ h]
theorem Xf {r:List UInt8}{x:Nat}(hx:x<256):at_ (uO 256++r) x=at_ tJ x:=by
 have hl:=ww 256;rw[tJ,at_,at_,List.getD_eq_getElem?_getD,List.getD_eq_getElem?_getD,List.getElem?_append_left (by omega),List.getElem?_take_of_lt hx]
theorem jH {S T:List UInt8}(h:∀ x,x<256→at_ S x=at_ T x) (l:List UInt8):xE S l=xE T l:=by
 apply List.map_congr_left
 intro i _
 rw[vU,vU,h _ (UInt8.toNat_lt _)]
theorem cF {S T:List UInt8}(h:∀ x,x<256→at_ S x=at_ T x) (key:List UInt8) (n:Nat):yK S key n=yK T key n:=by
 induction n with
 | zero=>rfl
 | succ n ih =>
 rw[yK,yK,ih];congr 2
 rw[mr,mr,h _ (UInt8.toNat_lt _)]
theorem eT (r l:List UInt8):xE (uO 256++r) l=xE tJ l:=jH (fun _ h=>Xf h) l
theorem Wt (r key:List UInt8) (n:Nat):yK (uO 256++r) key n=yK tJ key n:=cF (fun _ h=>Xf h) key n
theorem Uh {key:List UInt8}(h:key.length=16) {i:Nat}(hi:i≤10):qE (lS key) (512+i*16) 16=tu tJ key i:=by
 have hl:=ww 256;have hk:=wT tJ key h 160;apply List.ext_getElem (by rw[lF (by rw[em h];omega),tu,List.length_map,List.length_range])
 intro k h1 h2
 have lW:k<16:=by rw[tu,List.length_map,List.length_range]at h2;exact h2
 rw[← lK h1,← lK h2,az lW,tu,aY _ lW,lS,at_,at_,List.getD_eq_getElem?_getD,List.getD_eq_getElem?_getD,List.getElem?_append_right (by omega),hl,show 512+i*16+k-512=16*i+k by omega]
theorem fJ (S key:List UInt8) (i:Nat):(tu S key i).length=16:=by simp[tu]
structure CipS (L S key:List UInt8):Prop where
 len:L.length=688
 key:∀ i,i≤10→qE L (512+i*16) 16=tu S key i
 box:∀ l,xE L l=xE S l
theorem J5 {key:List UInt8}(h:key.length=16):CipS (lS key) tJ key:=⟨em h,fun i hi=>Uh h hi,fun l=>eT _ l⟩
theorem fv {g cg:Nat}{t:TypeId}{L S key b:List UInt8}(hL:CipS L S key) (uD:b.length=16) (xg:cg≠g) (w:World) (hB:Blk w g t (zr b)) (hC:Blk w cg 126 (zr L)) :
  Calls Tryz.prog 125 #[.pointer (some ⟨cg,0,none⟩),.pointer (some ⟨cg,512,none⟩),.pointer (some ⟨g,0,none⟩)] w fun e w'=>(∃ v,e=.returned v)∧Blk w' g t (zr (rg S key b 10))∧w.grownBy w' (some g):=by
 have HL:=Hh hL;have HN:=Hh xg;have TS:qE L 512 16=tu S key 0:=hL.key 0 (by omega);have TU:=hL.len;have X0:=Hh (aW uD (fJ S key 0) w hB);clear xg hL;go_enter Tryz.func125,Tryz.ntmps125
 go_wp2_with (with_reducible refine wU 123 ?_)
 refine zN rfl _ _ rfl cg 512 16 rfl hC (by omega) _ Tryz.underlying123 rfl (by kernel_rfl) ?_
 rw[TS];clear hB uD TS TU;go_wp2_with fail
 refine X0.out.mono ?_
 rintro e w1 ⟨⟨v,rfl⟩,hB,hg⟩
 have tE:=hC.grown hg (by intro e;injection e with e;exact HN.out e.symm);clear hC X0;go_wp2_with fail
 go_loopw [6] (fun v6 wr=>∃ i:Nat,v6=.int .i64 (i:Int)∧1≤i∧i≤11∧Blk wr g t (zr (rg S key b (i-1)))∧Blk wr cg 126 (zr L)∧w.grownBy wr (some g)) (fun v6 _=>(11-intOf v6).toNat)
 case atStart=>exact⟨1,rfl,by omega,by omega,hB,tE,hg⟩
 case round =>
 clear hB tE hg;obtain⟨i,rfl,rN,hi,hB,hC,hg⟩:=hrel
 by_cases zB:(i:Int)<11
 ·obtain⟨l,hl⟩:∃ l,rg S key b (i-1)=l:=⟨_,rfl⟩
  have pB:l.length=16:=by rw[← hl];exact pm _ _ _ _
  rw[hl]at hB
  have HS:Hid (rg S key b (i+1-1)=xG (if i<10 then vq (xE L l) else xE L l) (tu S key i)):=by
   rw[Hid,show i+1-1=(i-1)+1 by omega,rg,bI,hl,show i-1+1=i by omega,HL.out.box]
  have SH:=Hh (Z4 pB (by have:=HL.out.len;omega) HN.out wr hB hC);have sl:(xE L l).length=16:=by simp[xE]
  have ml:(vq (xE L l)).length=16:=by simp[vq]
  obtain⟨s1,vT⟩:∃ s,xE L l=s:=⟨_,rfl⟩
  rw[vT]at HS SH sl ml;have lw:=Hh (And.intro sl ml);clear hl pB hB sl ml vT;go_wp2_with fail
  refine SH.out.mono ?_
  rintro e w2 ⟨⟨v2,rfl⟩,yV,qJ⟩
  have sN:=hC.grown qJ (by intro e;injection e with e;exact HN.out e.symm);have nd:=zD hg qJ (.inl rfl);clear SH hC hg qJ;go_upto_if 23 with fail
  go_cut [] (fun wx=>Blk wx g t (zr (if i<10 then vq s1 else s1))∧Blk wx cg 126 (zr L)∧w.grownBy wx (some g))
  case first =>
   by_cases h10:(i:Int)<10
   ·have MX:=Hh (Ts lw.out.1 w2 yV);have E:Hid ((if i<10 then vq s1 else s1)=vq s1):=if_pos (by omega);clear yV;go_wp2_with fail
    refine MX.out.mono ?_
    rintro e w4 ⟨⟨v4,rfl⟩,aI,og⟩
    have rJ:=sN.grown og (by intro e;injection e with e;exact HN.out e.symm);have yF:=zD nd og (.inl rfl);clear sN nd og MX;go_wp2_with fail
    go_meet
    exact⟨by rw[E.out];exact aI,rJ,yF⟩
   have E:Hid ((if i<10 then vq s1 else s1)=s1):=if_neg (by omega);go_wp2_with fail
   go_meet
   exact⟨by rw[E.out];exact yV,sN,nd⟩
  case rest =>
  clear yV sN nd;obtain⟨hB,hC,hg⟩:=hcut;obtain⟨l2,pA⟩:∃ l,(if i<10 then vq s1 else s1)=l:=⟨_,rfl⟩
  have YC:l2.length=16:=by rw[← pA];split;exact lw.out.2;exact lw.out.1
  rw[pA]at hB HS;have Hi:qE L (512+i*16) 16=tu S key i:=HL.out.key i (by omega);have TU:=HL.out.len;have X1:=Hh (aW YC (fJ S key i) _ hB);clear hB pA YC lw;go_wp2_with (with_reducible refine wU 123 ?_)
  refine zN rfl _ _ rfl cg (512+i*16) 16 rfl hC (by omega) _ Tryz.underlying123 rfl (by kernel_rfl) ?_
  rw[Hi];clear Hi TU;go_wp2_with fail
  refine X1.out.mono ?_
  rintro e w5 ⟨⟨v5,rfl⟩,mM,yF⟩
  have VZ:=hC.grown yF (by intro e;injection e with e;exact HN.out e.symm);have xO:=zD hg yF (.inl rfl);rw[← HS.out]at mM;clear hC hg yF X1 HS;go_wp2_with fail
  go_roundw
  case rel=>exact⟨i+1,by go_num,by omega,by omega,mM,VZ,xO⟩
  case measure=>simp[intOf];omega
 obtain rfl:i=11:=by omega
 rw[show((11:Nat):Int)=11 from rfl]at zB⊢;go_wp2_with fail
 go_end0
 exact⟨⟨_,rfl⟩,hB,hg⟩
end Go.Proofs.YtliomcphdnppnaaGreatDoor
