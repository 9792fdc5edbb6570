/- squeezed. Walks: the schedule of AES, by the -/
import Derived.Test.YtliomcphdnppnaaGreatDoorK42
set_option linter.unusedVariables false
set_option linter.unusedSimpArgs false
set_option maxRecDepth 100000
set_option maxHeartbeats 6400000
namespace Go.Proofs.YtliomcphdnppnaaGreatDoor
open Go.RowKit
theorem jm {w w':World}(h:Below w.heap.size w w') {p:Addr}{v:Value}(hc:w.cell? p=some v):w'.cell? p=some v:=(h.cell (World.block_lt_of_cell? w _ hc)).trans hc
theorem Vo:Tryz.zeroCells124=zf (List.replicate 176 0):=by kernel_rfl
theorem SP (S key:List UInt8) (h:key.length=16):spl (List.replicate 176 0) 0 key=kY S key 0:=by
 rw[spl,kY,h,List.take_zero,List.nil_append,List.drop_replicate];rfl
theorem ZY {bg:Nat}{tb:TypeId}{S:List UInt8}(hSl:256≤S.length) {A:Option Addr}{c:Nat}{key:List UInt8}(hk:key.length=16) (w:World) (hS:Blk w bg tb (zf S)) (hK:Src w A (key.map zm)) :
  Calls Tryz.prog 97 #[.pointer (some ⟨bg,0,none⟩),.slice A 16 c] w fun e w'=>e=.returned (.agg (zf (vh S key 160)))∧Below w.heap.size w w':=by
 have hz:=Blk.new w 124 (zf (List.replicate 176 0));have xo:=zo w (.cells (zf (List.replicate 176 0)) 124);have Mc:=hS.alloc (.cells (zf (List.replicate 176 0)) 124);have JK:=hK.below xo;have sU:=Hh hS.lt;have HK:=Hh (And.intro hk hSl);clear hS hK hSl;go_enter Tryz.func97,Tryz.ntmps97
 go_wp2_with (with_reducible refine Tu ?_)
 unfold zC
 try rw[Vo]
 refine oI rfl (.tmp 11) (.tmp 12) rfl w.heap.size 0 16 16 rfl A 16 c key rfl hk.symm JK (by omega) hz (by rw[List.length_replicate];omega) fun w2 hB sv=>?_
 rw[SP S key hk]at hB;have IU:=Mc.grown sv (by intro e;injection e with e;have:=sU.out;omega);have zG:=xo.grown sv xo.size (by rintro q ⟨⟩;omega);clear hz xo Mc JK sv hk;go_wp2_with fail
 go_loopw [5,6] (fun v5 v6 wr=>∃ i:Nat,v6=.int .i64 (i:Int)∧v5=zm (rcU (i-1))∧1≤i∧i≤11∧Blk wr w.heap.size 124 (zf (kY S key (16*(i-1))))∧Blk wr bg tb (zf S)∧Below w.heap.size w wr) (fun _ v6 _=>(11-intOf v6).toNat)
 case atStart=>exact⟨1,rfl,rfl,by omega,by omega,hB,IU,zG⟩
 case round =>
 clear hB IU zG;obtain⟨i,rfl,rfl,oF,hi,hB,hS,hb⟩:=hrel
 by_cases yu:(i:Int)<11
 ·obtain⟨i1,LX⟩:∃ j,i-1=j:=⟨_,rfl⟩
  have W1:IntKind.i64.wrap ((i:Int)-1)=(i1:Int):=by rw[← LX,show((i-1:Nat):Int)=(i:Int)-1 by omega];exact IntWalk.i64_in _ (by omega)
  have l11:(i1:Int)<11:=by omega
  rw[LX]at hB⊢;obtain⟨rc,In⟩:∃ u,rcU i1=u:=⟨_,rfl⟩
  have ha:∀ j,j<4→at_ (kY S key (16*i1)) (i1*16+12+j)=at_ (vh S key 160) (16*i-4+j):=fun j hj=>by
   rw[Tr S key HK.out.1 (by omega) (by omega),show i1*16+12+j=16*i-4+j by omega]
  obtain⟨b0,xo⟩:∃ u,at_ (vh S key 160) (16*i-4+0)=u:=⟨_,rfl⟩
  obtain⟨b1,zB⟩:∃ u,at_ (vh S key 160) (16*i-4+1)=u:=⟨_,rfl⟩
  obtain⟨b2,zG⟩:∃ u,at_ (vh S key 160) (16*i-4+2)=u:=⟨_,rfl⟩
  obtain⟨b3,xj⟩:∃ u,at_ (vh S key 160) (16*i-4+3)=u:=⟨_,rfl⟩
  obtain⟨s0,ZV⟩:∃ u,at_ S b0.toNat=u:=⟨_,rfl⟩
  obtain⟨s1,vV⟩:∃ u,at_ S b1.toNat=u:=⟨_,rfl⟩
  obtain⟨s2,dJ⟩:∃ u,at_ S b2.toNat=u:=⟨_,rfl⟩
  obtain⟨s3,Ip⟩:∃ u,at_ S b3.toNat=u:=⟨_,rfl⟩
  have ls:=Yh S key HK.out.1 (show 16*i1≤160 by omega)
  have c0:wr.drew.cell? ⟨w.heap.size,i1*16+12,none⟩=some (zm b0):=by
   have:=hB.drew.cell (i1*16+12+0) (xf _ _ (by omega));rwa [ha 0 (by omega),xo]at this
  have c1:wr.drew.cell? ⟨w.heap.size,i1*16+12+1,none⟩=some (zm b1):=by
   have:=hB.drew.cell (i1*16+12+1) (xf _ _ (by omega));rwa [ha 1 (by omega),zB]at this
  have c2:wr.drew.cell? ⟨w.heap.size,i1*16+12+2,none⟩=some (zm b2):=by
   have:=hB.drew.cell (i1*16+12+2) (xf _ _ (by omega));rwa [ha 2 (by omega),zG]at this
  have c3:wr.drew.cell? ⟨w.heap.size,i1*16+12+3,none⟩=some (zm b3):=by
   have:=hB.drew.cell (i1*16+12+3) (xf _ _ (by omega));rwa [ha 3 (by omega),xj]at this
  have lt (u:UInt8):u.toNat<S.length:=by have:=u.toNat_lt;have:=HK.out.2;omega
  have d0:=hS.drew.cell b0.toNat (xf _ _ (lt b0));have d1:=hS.drew.cell b1.toNat (xf _ _ (lt b1));have d2:=hS.drew.cell b2.toNat (xf _ _ (lt b2));have d3:=hS.drew.cell b3.toNat (xf _ _ (lt b3));rw[ZV]at d0;rw[vV]at d1;rw[dJ]at d2;rw[Ip]at d3;have q0:(b0.toNat:Int)<256:=by have:=b0.toNat_lt;omega
  have q1:(b1.toNat:Int)<256:=by have:=b1.toNat_lt;omega
  have q2:(b2.toNat:Int)<256:=by have:=b2.toNat_lt;omega
  have q3:(b3.toNat:Int)<256:=by have:=b3.toNat_lt;omega
  have X:=Hh (wE s1 rc)
  have HT:Hid ([s1 ^^^ rc,s2,s3,s0]=[firstT S key i 0,firstT S key i 1,firstT S key i 2,firstT S key i 3]):=by
   rw[Hid]
   simp only[firstT,LX,Nat.reduceAdd,Nat.reduceMod]
   rw[zB,zG,xj,xo,ZV,vV,dJ,Ip]
   simp[In]
  have HRC:=Hh In;rw[In];clear ha xo zB zG xj ZV vV dJ Ip ls lt In;go_upto_region 7 with fail
  refine zw 36 (fun wx=>(wx.cell? ⟨w.heap.size,i1*16+12,none⟩=some (zm b0)∧wx.cell? ⟨w.heap.size,i1*16+12+1,none⟩=some (zm b1)∧wx.cell? ⟨w.heap.size,i1*16+12+2,none⟩=some (zm b2)∧wx.cell? ⟨w.heap.size,i1*16+12+3,none⟩=some (zm b3))∧(wx.cell? ⟨bg,b0.toNat,none⟩=some (zm s0)∧wx.cell? ⟨bg,b1.toNat,none⟩=some (zm s1)∧wx.cell? ⟨bg,b2.toNat,none⟩=some (zm s2)∧wx.cell? ⟨bg,b3.toNat,none⟩=some (zm s3))) (by kernel_rfl) (⟨⟨c0,c1,c2,c3⟩,d0,d1,d2,d3⟩) (fun zy=>?_)
  refine Tk 0 rfl zy ?_
  refine Tk 1 rfl zy ?_
  refine Tk 2 rfl zy ?_
  refine Tk 3 rfl zy ?_
  refine Tk 4 rfl zy ?_
  refine Tk 5 rfl zy ?_
  refine Tk 6 rfl zy ?_
  refine Tk 7 rfl zy ?_
  refine Tk 8 rfl zy ?_
  refine Tk 9 rfl zy ?_
  refine Tk 10 rfl zy ?_
  refine Tk 11 rfl zy ?_
  refine Tk 12 rfl zy ?_
  refine Tk 13 rfl zy ?_
  refine Tk 14 rfl zy ?_
  refine Tk 15 rfl zy ?_
  refine Tk 16 rfl zy ?_
  refine Tk 17 rfl zy ?_
  refine Tk 18 rfl zy ?_
  refine Tk 19 rfl zy ?_
  refine Tk 20 rfl zy ?_
  refine Tk 21 rfl zy ?_
  refine Tk 22 rfl zy ?_
  refine Tk 23 rfl zy ?_
  refine Tk 24 rfl zy ?_
  refine Tk 25 rfl zy ?_
  refine Tk 26 rfl zy ?_
  refine Tk 27 rfl zy ?_
  refine Tk 28 rfl zy ?_
  refine Tk 29 rfl zy ?_
  refine Tk 30 rfl zy ?_
  refine Tk 31 rfl zy ?_
  refine Tk 32 rfl zy ?_
  refine Tk 33 rfl zy ?_
  refine Tk 34 rfl zy ?_
  refine To 35 rfl fun K hK=>?_
  go_simp
  have hT:=Blk.new wr.drew 167 (zf [0,0,0,0]);have oh:=hB.drew.alloc (.cells (zf [0,0,0,0]) 167);have hS4:=hS.drew.alloc (.cells (zf [0,0,0,0]) 167);have uR:=hb.drew.alloc hb.size (.cells (zf [0,0,0,0]) 167);have e4:=zo wr.drew (.cells (zf [0,0,0,0]) 167);clear zy
  refine hK.out _ _ (fun _=>?_) (fun zy=>?_)
  ·exact⟨⟨(jm e4 c0),(jm e4 c1),(jm e4 c2),(jm e4 c3)⟩,(jm e4 d0),(jm e4 d1),(jm e4 d2),(jm e4 d3)⟩
  clear hK K;replace zy:=zy (by decide)
  try simp only[Act.put,zz1,zz2,zz3,zz4,zz5,zz6]
  refine To 36 rfl fun K hK=>?_
  rw[if_pos (by rfl)]
  refine zh _ _ _ rfl _ (zf [s1 ^^^ rc,s2,s3,s0]) rfl (by show Value.agg #[Value.int .u8 (bits .xor .u8 (s1.toNat:Int) (rc.toNat:Int)),zm s2,zm s3,zm s0]=_;rw[X.out];rfl) _ _ hT (by kernel_rfl) rfl (xI _) fun w10 kU xW=>?_
  refine Kz hK ?_
  clear hK K
  refine Wd ?_
  clear zy;rw[HT.out]at kU;obtain⟨M,hM⟩:∃ M,wr.heap.size=M:=⟨_,rfl⟩
  have HM:Hid (w.heap.size<M∧bg<M∧bg<w.heap.size):=by have h1:=hB.lt;have h2:=hS.lt;have h3:=sU.out;rw[Hid];omega
  have oY:=oh.grown xW (by intro e;injection e with e;have:=HM.out;omega);have Z0:=hS4.grown xW (by intro e;injection e with e;have:=HM.out;omega);have rl:=uR.grown xW uR.size (by rintro q ⟨⟩;have:=HM.out;omega);rw[hM]at kU;rw[hM];clear xW hT oh hS4 uR e4 c0 c1 c2 c3 d0 d1 d2 d3 q0 q1 q2 q3 X HT hB hS hb hM;have D:=Hh (fun b w=>kG b w);have HI:=Hh (And.intro LX (And.intro oF hi));go_wp2_with fail
  refine(D.out rc _).mono ?_
  rintro e w11 ⟨rfl,rfl⟩
  clear D l11;go_wp2_with fail
  go_loopw [59] (fun v59 wx=>∃ (k:Nat) (tl:List UInt8),v59=.int .i64 (k:Int)∧k≤16∧TRow S key i k tl∧Blk wx M 167 (zf tl)∧Blk wx w.heap.size 124 (zf (kY S key (16*i1+k)))∧Blk wx bg tb (zf S)∧Below w.heap.size w wx) (fun v59 _=>(16-intOf v59).toNat)
  case atStart=>exact⟨0,_,rfl,by omega,TRow.start S key i,kU,oY,Z0,rl⟩
  case round =>
  clear kU oY Z0 rl;obtain⟨k,tl,rfl,hk,hR,hT,hB,hS,hb⟩:=hrel
  by_cases QU:(k:Int)<16
  ·obtain⟨q,hq⟩:∃ q,k%4=q:=⟨_,rfl⟩
   have t3:(k:Int).tmod 4=(q:Int):=by rw[← hq];exact(Int.ofNat_tmod k 4).symm
   have t3':(k:Int)%4=(q:Int):=by rw[← hq];omega
   have lq:(q:Int)<4:=by omega
   have l11:(i1:Int)<11:=by have:=HI.out;omega
   have gB:=HI.out;obtain⟨v,hv⟩:∃ v,fG S key i k=v:=⟨_,rfl⟩
   obtain⟨u,hu⟩:∃ u,at_ (vh S key 160) (16*i1+k)=u:=⟨_,rfl⟩
   have HN:Hid (at_ (vh S key 160) (16*i+k)=v ^^^ u):=by
    rw[Hid,eW S key HK.out.1 (by omega) (by omega) (by omega),hv,gB.1,hu]
   have HR:=Hh (hR.step HK.out.1 (by omega) (by omega) (by omega));have Pz:=Hh hR.len;have hw:=hR.val k (Nat.le_refl _) (by omega);rw[hq,hv]at hw;have ls:=Yh S key HK.out.1 (show 16*i1+k≤160 by omega);have c0:=hT.drew.cell q (xf _ _ (by have:=Pz.out;omega));have c1:=hB.drew.cell (i1*16+k) (xf _ _ (by omega));rw[hw]at c0;rw[Tr S key HK.out.1 (by omega) (by omega),show i1*16+k=16*i1+k by omega,hu,show 16*i1+k=i1*16+k by omega]at c1;have X:=Hh (wE v u);have S1:=Hh (Nu S key HK.out.1 (show 16*i1+k<160 by omega));rw[show 16+(16*i1+k)=16*i+k by omega,HN.out]at S1;rw[HN.out,hq]at HR;have IA:=Hh ls;have W1:IntKind.i64.wrap ((i:Int)-1)=(i1:Int):=by rw[← gB.1,show((i-1:Nat):Int)=(i:Int)-1 by omega];exact IntWalk.i64_in _ (by omega)
   have HQ:=Hh hq;clear hv hu hR hw gB ls hq;go_upto_region 12 with fail
   refine zw 12 (fun wx=>wx.cell? ⟨M,q,none⟩=some (zm v)∧wx.cell? ⟨w.heap.size,i1*16+k,none⟩=some (zm u)) (by kernel_rfl) (⟨c0,c1⟩) (fun zy=>?_)
   refine Tk 0 rfl zy ?_
   refine Tk 1 rfl zy ?_
   refine Tk 2 rfl zy ?_
   refine Tk 3 rfl zy ?_
   refine Tk 4 rfl zy ?_
   refine Tk 5 rfl zy ?_
   refine Tk 6 rfl zy ?_
   refine Tk 7 rfl zy ?_
   refine Tk 8 rfl zy ?_
   refine Tk 9 rfl zy ?_
   refine Tk 10 rfl zy ?_
   refine Tk 11 rfl zy ?_
   refine To 12 rfl fun K hK=>?_
   rw[if_pos (by rfl)]
   refine xt _ _ _ rfl M q (zm (v ^^^ u)) rfl (by show Value.int .u8 (bits .xor .u8 (v.toNat:Int) (u.toNat:Int))=_;rw[X.out]) _ _ hT.drew wD (by rw[zX,Pz.out];omega) rfl fun w9 od xR=>?_
   refine Kz hK ?_
   clear hK K
   refine Wd ?_
   clear zy;rw[ut]at od;have fR:=hB.drew.grown xR (by intro e;injection e with e;have:=HM.out;omega);have Dj:=hS.drew.grown xR (by intro e;injection e with e;have:=HM.out;omega);have mg:=hb.drew.grown xR hb.size (by rintro q ⟨⟩;have:=HM.out;omega);clear xR c0 c1 hT hB hS hb X;have c0:=od.drew.cell q (xf _ _ (by rw[List.length_set,Pz.out];omega));rw[OM _ _ _ _ (by rw[Pz.out];omega),if_pos rfl]at c0;have l11b:(i:Int)<11:=by have:=HI.out;omega
   go_upto_region 13 with fail
   refine zw 8 (fun wx=>wx.cell? ⟨M,q,none⟩=some (zm (v ^^^ u))) (by kernel_rfl) (c0) (fun zy=>?_)
   refine Tk 0 rfl zy ?_
   refine Tk 1 rfl zy ?_
   refine Tk 2 rfl zy ?_
   refine Tk 3 rfl zy ?_
   refine Tk 4 rfl zy ?_
   refine Tk 5 rfl zy ?_
   refine Tk 6 rfl zy ?_
   refine Tk 7 rfl zy ?_
   refine To 8 rfl fun K hK=>?_
   rw[if_pos (by rfl)]
   refine xt _ _ _ rfl w.heap.size (i*16+k) (zm (v ^^^ u)) rfl rfl _ _ fR.drew wD (by rw[zX,IA.out];have:=HI.out;omega) rfl fun w12 hB12 hg12=>?_
   refine Kz hK ?_
   clear hK K
   refine Wd ?_
   clear zy;rw[ut,show i*16+k=16*i+k by omega,S1.out]at hB12;have Gg:=od.drew.grown hg12 (by intro e;injection e with e;have:=HM.out;omega);have zAJ:=Dj.drew.grown hg12 (by intro e;injection e with e;have:=HM.out;omega);have yD:=mg.drew.grown hg12 mg.size (by rintro q ⟨⟩;omega);clear hg12 c0 od fR Dj mg t3 t3' lq l11 l11b W1;go_wp2_with fail
   go_roundw
   case rel=>exact⟨k+1,_,by go_num,by omega,HR.out,Gg,hB12,zAJ,yD⟩
   case measure=>simp[intOf];omega
  obtain rfl:k=16:=by omega
  rw[show((16:Nat):Int)=16 from rfl]at QU⊢;have gB:=HI.out;rw[show 16*i1+16=16*((i+1)-1) by omega]at hB;have HD:Hid (zm (pW rc)=zm (rcU (i+1-1))):=by rw[Hid,show i+1-1=i1+1 by omega,rcU,HRC.out]
  clear hR hT gB;go_wp2_with fail
  go_roundw
  case rel=>exact⟨i+1,by go_num,HD.out,by omega,by have:=HI.out;omega,hB,hS,hb⟩
  case measure=>have:=HI.out;simp[intOf];omega
 obtain rfl:i=11:=by omega
 rw[show((11:Nat):Int)=11 from rfl]at yu⊢;clear yu;have hE:kY S key (16*(11-1))=vh S key 160:=by rw[kY];exact List.append_nil _
 rw[hE]at hB;have hl:=tK S key HK.out.1 160;go_wp2_with (with_reducible refine tE 124 ?_)
 refine yM rfl _ _ rfl w.heap.size 0 176 rfl hB (by omega) _ Tryz.underlying124 rfl (by kernel_rfl) ?_
 rw[uu hl];go_wp2_with (with_reducible refine zx ?_)
 refine rz rfl _ _ _ rfl rfl w.heap.size 0 (vh S key 160) rfl rfl hB (by rw[hl];kernel_rfl) (by omega) fun w8 bz hg8=>?_
 rw[Tt rfl]at bz;have qU:=hb.grown hg8 hb.size (by rintro q ⟨⟩;omega);clear hB hS hb hg8;go_wp2_with fail
 exact zF rfl rfl bz rfl rfl (by rw[zX,hl];kernel_rfl) rfl ⟨rfl,qU⟩
def fJ (key:List UInt8):List UInt8:=sS 256++vh jn key 160
theorem Y5 {key:List UInt8}(h:key.length=16):(fJ key).length=688:=by
 rw[fJ,List.length_append,vy,tK _ _ h]
theorem OL {r:List UInt8}{x:Nat}(hx:x<256):at_ (sS 256++r) x=at_ jn x:=by
 have hl:=vy 256;rw[jn,at_,at_,List.getD_eq_getElem?_getD,List.getD_eq_getElem?_getD,List.getElem?_append_left (by omega),List.getElem?_take_of_lt hx]
theorem cS {S T:List UInt8}(h:∀ x,x<256→at_ S x=at_ T x) (l:List UInt8):ua S l=ua T l:=by
 apply List.map_congr_left
 intro i _
 rw[mR,mR,h _ (UInt8.toNat_lt _)]
theorem V0 {S T:List UInt8}(h:∀ x,x<256→at_ S x=at_ T x) (key:List UInt8) (n:Nat):vh S key n=vh T key n:=by
 induction n with
 | zero=>rfl
 | succ n ih =>
 rw[vh,vh,ih];congr 2
 rw[fE,fE,h _ (UInt8.toNat_lt _)]
theorem Xl (r l:List UInt8):ua (sS 256++r) l=ua jn l:=cS (fun _ h=>OL h) l
theorem NL (r key:List UInt8) (n:Nat):vh (sS 256++r) key n=vh jn key n:=V0 (fun _ h=>OL h) key n
theorem Ky {key:List UInt8}(h:key.length=16) {i:Nat}(hi:i≤10):lI (fJ key) (512+i*16) 16=gE jn key i:=by
 have hl:=vy 256;have hk:=tK jn key h 160;apply List.ext_getElem (by rw[em (by rw[Y5 h];omega),gE,List.length_map,List.length_range])
 intro k h1 h2
 have Sn:k<16:=by rw[gE,List.length_map,List.length_range]at h2;exact h2
 rw[← aA h1,← aA h2,Kx Sn,gE,Jk _ Sn,fJ,at_,at_,List.getD_eq_getElem?_getD,List.getD_eq_getElem?_getD,List.getElem?_append_right (by omega),hl,show 512+i*16+k-512=16*i+k by omega]
theorem Ye (S key:List UInt8) (i:Nat):(gE S key i).length=16:=by simp[gE]
structure CipS (L S key:List UInt8):Prop where
 len:L.length=688
 key:∀ i,i≤10→lI L (512+i*16) 16=gE S key i
 box:∀ l,ua L l=ua S l
theorem zAV {key:List UInt8}(h:key.length=16):CipS (fJ key) jn key:=⟨Y5 h,fun i hi=>Ky h hi,fun l=>Xl _ l⟩
theorem ZX {g cg:Nat}{t:TypeId}{L S key b:List UInt8}(hL:CipS L S key) (om:b.length=16) (vl:cg≠g) (w:World) (hB:Blk w g t (zf b)) (hC:Blk w cg 126 (zf L)) :
  Calls Tryz.prog 125 #[.pointer (some ⟨cg,0,none⟩),.pointer (some ⟨cg,512,none⟩),.pointer (some ⟨g,0,none⟩)] w fun e w'=>(∃ v,e=.returned v)∧Blk w' g t (zf (fK S key b 10))∧w.grownBy w' (some g):=by
 have HL:=Hh hL;have HN:=Hh vl;have JL:lI L 512 16=gE S key 0:=hL.key 0 (by omega);have ZK:=hL.len;have X0:=Hh (TQ om (Ye S key 0) w hB);clear vl hL;go_enter Tryz.func125,Tryz.ntmps125
 go_wp2_with (with_reducible refine tE 123 ?_)
 refine yM rfl _ _ rfl cg 512 16 rfl hC (by omega) _ Tryz.underlying123 rfl (by kernel_rfl) ?_
 rw[JL];clear hB om JL ZK;go_wp2_with fail
 refine X0.out.mono ?_
 rintro e w1 ⟨⟨v,rfl⟩,hB,hg⟩
 have qj:=hC.grown hg (by intro e;injection e with e;exact HN.out e.symm);clear hC X0;go_wp2_with fail
 go_loopw [6] (fun v6 wr=>∃ i:Nat,v6=.int .i64 (i:Int)∧1≤i∧i≤11∧Blk wr g t (zf (fK S key b (i-1)))∧Blk wr cg 126 (zf L)∧w.grownBy wr (some g)) (fun v6 _=>(11-intOf v6).toNat)
 case atStart=>exact⟨1,rfl,by omega,by omega,hB,qj,hg⟩
 case round =>
 clear hB qj hg;obtain⟨i,rfl,oF,hi,hB,hC,hg⟩:=hrel
 by_cases yu:(i:Int)<11
 ·obtain⟨l,hl⟩:∃ l,fK S key b (i-1)=l:=⟨_,rfl⟩
  have dO:l.length=16:=by rw[← hl];exact eU _ _ _ _
  rw[hl]at hB
  have HS:Hid (fK S key b (i+1-1)=rs (if i<10 then mU (ua L l) else ua L l) (gE S key i)):=by
   rw[Hid,show i+1-1=(i-1)+1 by omega,fK,Oz,hl,show i-1+1=i by omega,HL.out.box]
  have SH:=Hh (Qd dO (by have:=HL.out.len;omega) HN.out wr hB hC);have sl:(ua L l).length=16:=by simp[ua]
  have ml:(mU (ua L l)).length=16:=by simp[mU]
  obtain⟨s1,vV⟩:∃ s,ua L l=s:=⟨_,rfl⟩
  rw[vV]at HS SH sl ml;have JE:=Hh (And.intro sl ml);clear hl dO hB sl ml vV;go_wp2_with fail
  refine SH.out.mono ?_
  rintro e w2 ⟨⟨v2,rfl⟩,yQ,sv⟩
  have pZ:=hC.grown sv (by intro e;injection e with e;exact HN.out e.symm);have ph:=zK hg sv (.inl rfl);clear SH hC hg sv;go_upto_if 23 with fail
  go_cut [] (fun wx=>Blk wx g t (zf (if i<10 then mU s1 else s1))∧Blk wx cg 126 (zf L)∧w.grownBy wx (some g))
  case first =>
   by_cases h10:(i:Int)<10
   ·have MX:=Hh (Ji JE.out.1 w2 yQ);have E:Hid ((if i<10 then mU s1 else s1)=mU s1):=if_pos (by omega);clear yQ;go_wp2_with fail
    refine MX.out.mono ?_
    rintro e w4 ⟨⟨v4,rfl⟩,oh,oE⟩
    have oD:=pZ.grown oE (by intro e;injection e with e;exact HN.out e.symm);have xv:=zK ph oE (.inl rfl);clear pZ ph oE MX;go_wp2_with fail
    go_meet
    exact⟨by rw[E.out];exact oh,oD,xv⟩
   have E:Hid ((if i<10 then mU s1 else s1)=s1):=if_neg (by omega);go_wp2_with fail
   go_meet
   exact⟨by rw[E.out];exact yQ,pZ,ph⟩
  case rest =>
  clear yQ pZ ph;obtain⟨hB,hC,hg⟩:=hcut;obtain⟨l2,mi⟩:∃ l,(if i<10 then mU s1 else s1)=l:=⟨_,rfl⟩
  have Ce:l2.length=16:=by rw[← mi];split;exact JE.out.2;exact JE.out.1
  rw[mi]at hB HS;have hLi:lI L (512+i*16) 16=gE S key i:=HL.out.key i (by omega);have ZK:=HL.out.len;have X1:=Hh (TQ Ce (Ye S key i) _ hB);clear hB mi Ce JE;go_wp2_with (with_reducible refine tE 123 ?_)
  refine yM rfl _ _ rfl cg (512+i*16) 16 rfl hC (by omega) _ Tryz.underlying123 rfl (by kernel_rfl) ?_
  rw[hLi];clear hLi ZK;go_wp2_with fail
  refine X1.out.mono ?_
  rintro e w5 ⟨⟨v5,rfl⟩,oa,xv⟩
  have Lw:=hC.grown xv (by intro e;injection e with e;exact HN.out e.symm);have ws:=zK hg xv (.inl rfl);rw[← HS.out]at oa;clear hC hg xv X1 HS;go_wp2_with fail
  go_roundw
  case rel=>exact⟨i+1,by go_num,by omega,by omega,oa,Lw,ws⟩
  case measure=>simp[intOf];omega
 obtain rfl:i=11:=by omega
 rw[show((11:Nat):Int)=11 from rfl]at yu⊢;exact jcl
end Go.Proofs.YtliomcphdnppnaaGreatDoor
