/- squeezed. Walks: the key stream, by the refe -/
import Derived.Test.YtliomcphdnppnaaGreatDoorK39
set_option linter.unusedVariables false
set_option linter.unusedSimpArgs false
set_option maxRecDepth 100000
set_option maxHeartbeats 25600000
namespace Go.Proofs.YtliomcphdnppnaaGreatDoor
open Go.RowKit
def gl (key nonce:List UInt8) (block j:Nat):List UInt8:=qz key (vC (firstS nonce) nonce (block+j))
def te (key nonce b:List UInt8) (block k:Nat):UInt8:=at_ b k ^^^ at_ (gl key nonce block (k/16)) (k%16)
def qw (key nonce b:List UInt8) (block:Nat):List UInt8:=(List.range b.length).map (te key nonce b block)
theorem mo (key nonce b:List UInt8):qw key nonce b 1=rj key nonce b:=by
 unfold qw rj
 apply List.map_congr_left
 intro k hk
 rw[te,gl,rH,Nat.add_comm 1 (k/16)]
theorem gF (key nonce:List UInt8) {b:List UInt8}(h:b.length=16):qw key nonce b 0=uv key nonce b:=by
 unfold qw uv xG
 rw[h];apply List.map_congr_left
 intro k hk
 have VX:k<16:=by simpa using hk
 rw[te,gl,show k/16=0 by omega,show k%16=k by omega]
theorem cQ (f:Nat→UInt8) (n:Nat):(List.range n).map f++[f n]=(List.range (n+1)).map f:=by rw[List.range_succ,List.map_append];rfl
theorem oX {KA:Option Addr}{kc:Nat}{key:List UInt8}(hk:key.length=16) {NA:Option Addr}{nn nc:Nat}{nonce:List UInt8}(wd:nn=nonce.length) (fX:nonce.length≤13) {BA:Option Addr}{bn bc:Nat}{b:List UInt8}(nW:bn=b.length) (uD:b.length≤1048576) (block:Nat) (hblk:block≤1) (w:World)
  (hK:Src w KA (key.map zv)) (hN:Src w NA (nonce.map zv)) (hB:Src w BA (b.map zv)) :
  Calls Tryz.prog 84 #[.slice KA 16 kc,.slice NA nn nc,.slice BA bn bc,.int .i64 (block:Int)] w fun e w'=>∃ v,e=.returned v∧Fresh w (qw key nonce b block) v w':=by
 have HN:=Hh (And.intro wd (And.intro fX (And.intro nW (And.intro uD (And.intro hk hblk)))));have HS:=Hh (And.intro hK (And.intro hN hB));have eW:IntKind.i64.wrap (14-(nn:Int))=((14-nn:Nat):Int):=by rw[IntWalk.i64_in _ (by omega)];omega
 obtain⟨fs,L7⟩:∃ fs,14-nn=fs:=⟨_,rfl⟩
 have GS:Hid (fs<256∧UInt8.ofNat fs=firstS nonce):=by rw[Hid,← L7,firstS,wd];exact⟨by omega,rfl⟩
 rw[L7]at eW;clear wd fX nW uD hk hblk hK hN hB L7;go_enter Tryz.func84,Tryz.ntmps84
 go_wp2_with fail
 go_loopw [9,10,15] (fun v9 v10 v15 wr=>∃ (i:Nat) (OA:Option Addr) (oc:Nat) (SA:Option Addr) (sn sc:Nat) (E:List UInt8),v15=.int .i64 (i:Int)∧i≤bn∧v9=.slice OA i oc∧v10=.slice SA sn sc∧OwnB wr w.heap.size (.slice OA i oc) ((List.range i).map (te key nonce b block))∧OwnB wr w.heap.size (.slice SA sn sc) E∧
   Hid (0<i→sn=16∧E=gl key nonce block ((i-1)/16))∧(∀ k,(Value.slice OA i oc).ownBlock=some k→(Value.slice SA sn sc).ownBlock≠some k)∧Below w.heap.size w wr) (fun _ _ v15 _=>(bn-intOf v15).toNat)
 case atStart=>exact⟨0,none,0,none,0,0,[],rfl,Nat.zero_le _,rfl,rfl,OwnB.nil _ _,OwnB.nil _ _,(fun h=>by omega),(fun k hk=>by simp[Value.ownBlock]at hk),Below.refl _ _⟩
 case round =>
 obtain⟨i,OA,oc,SA,sn,sc,E,rfl,hi,rfl,rfl,hO,hE,ME,xg,hb⟩:=hrel
 by_cases zB:(i:Int)<(bn:Int)
 ·obtain⟨bb,bo,FA,sD⟩:=HS.out.2.2 (by intro h0;rw[List.map_eq_nil_iff]at h0;have h1:=HN.out.2.2.1;rw[h0]at h1;simp at h1;omega);have e0:=uV hb (sD i (zv (at_ b i)) (by have h1:=HN.out.2.2.1;rw[List.getElem?_map,List.getElem?_eq_getElem (by omega)];simp[at_,List.getD_eq_getElem?_getD,show i<b.length by omega]));subst FA;obtain⟨r,hr⟩:∃ r,i%16=r:=⟨_,rfl⟩
  obtain⟨j,hj⟩:∃ j,i/16=j:=⟨_,rfl⟩
  have t1:(i:Int).tmod 16=(r:Int):=by rw[← hr];exact(Int.ofNat_tmod i 16).symm
  have t2:(i:Int).tdiv 16=(j:Int):=by rw[← hj];exact(Int.ofNat_tdiv i 16).symm
  have t2':(i:Int)/16=(j:Int):=by rw[← hj];omega
  have e1:IntKind.i64.wrap ((block:Int)+(j:Int))=((block+j:Nat):Int):=by rw[IntWalk.i64_in _ (by have:=HN.out;omega)];omega
  have W0:IntKind.i64.wrap (j:Int)=(j:Int):=zP (by have:=HN.out;omega);obtain⟨bj,Vk⟩:∃ q,block+j=q:=⟨_,rfl⟩
  rw[Vk]at e1;obtain⟨u,hu⟩:∃ u,at_ b i=u:=⟨_,rfl⟩
  rw[hu]at e0;have HI:=Hh (And.intro hr (And.intro hj (And.intro Vk (And.intro hu hi))));have DJ:=zB;clear hr hj Vk hu hi sD;go_upto_if 22 with fail
  go_cut [10] (fun s10 wx=>∃ (SA:Option Addr) (sc:Nat),s10=.slice SA 16 sc∧OwnB wx w.heap.size (.slice SA 16 sc) (gl key nonce block j)∧OwnB wx w.heap.size (.slice OA i oc) ((List.range i).map (te key nonce b block))∧(∀ k,(Value.slice OA i oc).ownBlock=some k→(Value.slice SA 16 sc).ownBlock≠some k)∧Below w.heap.size w wx)
  case first =>
   by_cases h0:r=0
   ·subst h0;have z0:(((0:Nat):Int)==0)=true:=rfl;have CT0:=mh (A:=NA) (c:=nc) HN.out.1 (by have:=HN.out;omega) fs GS.out.1 bj (by have:=HN.out;have:=HI.out;omega) wr (HS.out.2.1.below hb);obtain⟨CL,YQ⟩:∃ CL,vC (UInt8.ofNat fs) nonce bj=CL:=⟨_,rfl⟩
    rw[YQ]at CT0;have sD:CL.length=16:=by rw[← YQ];exact tU _ HN.out.2.1 _
    rw[GS.out.2]at YQ;obtain⟨EL,Vb⟩:∃ EL,qz key CL=EL:=⟨_,rfl⟩
    have Rz:Hid (EL.length=16∧gl key nonce block j=EL):=⟨by rw[← Vb];exact uH _ _,by rw[gl,HI.out.2.2.1,YQ,Vb]⟩
    have EN0:Hid (∀ (CA:Option Addr) (cc:Nat) (W:World),Src W KA (key.map zv)→Src W CA (CL.map zv)→Calls Tryz.prog 115 #[.slice KA 16 kc,.slice CA 16 cc] W fun e w'=>∃ v,e=.returned (.tuple #[v,.int .i64 0])∧Fresh W EL v w'):=fun CA cc W h1 h2=>by
     rw[← Vb]
     exact mg HN.out.2.2.2.2.1 sD W h1 h2
    have CT:=Hh CT0;have Vz:=Hh sD;clear CT0 YQ Vb sD;go_wp2_with fail
    refine CT.out.mono ?_
    rintro e w5 ⟨v5,rfl,wL⟩
    clear CT;obtain⟨CA,cc,dX,wZ,LD,DQ⟩:=wL.own.form;subst dX;rw[Vz.out]at wZ⊢;have EN:=Hh (EN0.out CA cc w5 ((HS.out.1.below hb).below wL.2) wL.own.src);have FT:=fun k hk=>(hO.lt k hk).2
    replace hO:=(hO.below wL.2)
    replace hb:=hb.trans (wL.2.mono hb.size);have Dj:=wL.2.size;clear wZ wL hE EN0;go_wp2_with fail
    refine EN.out.mono ?_
    rintro e w6 ⟨v6,rfl,uk⟩
    clear EN;obtain⟨EA,ec,rfl,wZ,_,_⟩:=uk.own.form;rw[Rz.out.1]at wZ⊢;have Re:OwnB w6 w5.heap.size (.slice EA EL.length ec) EL:=uk.own;rw[Rz.out.1]at Re;replace hO:=hO.below uk.2;have SV:=Re.more hb.size;replace hb:=hb.trans (uk.2.mono hb.size);clear wZ uk;go_wp2_with fail
    go_meet
    exact⟨EA,ec,rfl,by rw[Rz.out.2];exact SV,hO,fun k hk ir=>by have h1:=FT k hk;have h2:=(Re.lt k ir).1;omega,hb⟩
   have Q4:((r:Int)==0)=false:=by rw[beq_eq_false_iff_ne];omega
   have J7:((r:Int)=0)=False:=eq_false (by omega);have nT:=ME.out (by have:=HI.out;omega);have IP:(i-1)/16=j:=by have:=HI.out;omega
   rw[IP]at nT;obtain⟨rfl,rfl⟩:=nT;clear h0 ME IP;go_wp2_with fail
   go_meet
   exact⟨SA,sc,rfl,hE,hO,xg,hb⟩
  case rest =>
  clear hO hE hb xg ME t2 t2' e1 e0 W0;obtain⟨SA,sc,rfl,hE,hO,xg,hb⟩:=hcut;obtain⟨F,hF⟩:∃ F,gl key nonce block j=F:=⟨_,rfl⟩
  have MF:F.length=16:=by rw[← hF,gl];exact uH _ _
  rw[hF]at hE;obtain⟨sb,so,rfl,Vt⟩:=hE.src (by intro h0;rw[List.map_eq_nil_iff]at h0;rw[h0]at MF;simp at MF);have OS:r<16:=by have:=HI.out;omega
  have e1:=Vt r (zv (at_ F r)) (by rw[List.getElem?_map,List.getElem?_eq_getElem (by omega)];simp[at_,List.getD_eq_getElem?_getD,show r<F.length by omega]);have GA:(r:Int)<16:=by omega
  obtain⟨v,hv⟩:∃ v,at_ F r=v:=⟨_,rfl⟩
  rw[hv]at e1;have X:=yn u v;obtain⟨y,hy⟩:∃ y,u ^^^ v=y:=⟨_,rfl⟩
  rw[hy]at X;obtain⟨L,hL⟩:∃ L,(List.range i).map (te key nonce b block)=L:=⟨_,rfl⟩
  have HL:Hid (L++[y]=(List.range (i+1)).map (te key nonce b block)∧L.length=i):=by
   refine⟨?_,by rw[← hL];simp⟩
   have h:=HI.out;rw[← cQ,hL,te,h.2.1,h.1,h.2.2.2.1,hF,hv,hy]
  rw[hL]at hO;have GZ:=Hh xg;have rN:IntKind.i64.wrap ((i:Int)+1)=(i:Int)+1:=IntWalk.i64_in _ (by have:=HN.out;have:=HI.out;omega);have wK:=hO.alloc (.cells #[.int .u8 (y.toNat:Int)] 5);have dh:=hE.alloc (.cells #[.int .u8 (y.toNat:Int)] 5);have zH:=hb.alloc hb.size (.cells #[.int .u8 (y.toNat:Int)] 5);have oz:=ql hb 5 #[.int .u8 (y.toNat:Int)];have GT:=Hh (And.intro hF MF);clear Vt hF MF hv hy hL hO hE hb xg OS;go_wp2_with (at_builtin;refine zO ?_)
  refine zn rfl (.tmp 37) (.tmp 45) rfl w.heap.size (.slice OA i oc) L rfl wK _ 1 1 [y] rfl rfl oz (by have h1:=HL.out.2;have h2:=HN.out;have h3:=HI.out;simp;omega) zH.size fun v' w9 je xr hat9=>?_
  obtain⟨L2,jZ⟩:∃ L2,L++[y]=L2:=⟨_,rfl⟩
  have wJ:Hid (L2=(List.range (i+1)).map (te key nonce b block)∧L2.length=i+1):=⟨by rw[← jZ,HL.out.1],by rw[← jZ,List.length_append,HL.out.2];rfl⟩
  rw[jZ]at je;obtain⟨VB,vd,rfl,wZ,_,_⟩:=je.form;rw[wJ.out.2]at je hat9⊢;have FG:=dh.kept xr (.inr (fun e=>GZ.out _ e.symm rfl));have nV:=zH.grown xr zH.size (fun q hq=>(wK.lt q hq).1)
  have Jp:∀ k,(Value.slice VB (i+1) vd).ownBlock=some k→(Value.slice (some (⟨sb,so,none⟩:Addr)) 16 sc).ownBlock≠some k:=fun k hk ir=>by
   rcases hat9 with h | ⟨g',h1,h2⟩
   ·rw[hk]at h;exact GZ.out k h.symm ir
   rw[hk]at h1;injection h1 with h1;have h3:=(dh.lt k ir).2;omega
  clear jZ wZ wK dh zH oz xr hat9 e1 X GA;go_wp2_with fail
  go_roundw
  case rel=>exact⟨i+1,VB,vd,some ⟨sb,so,none⟩,16,sc,F,by go_num,by have:=HI.out;omega,rfl,rfl,by rw[← wJ.out.1];exact je,FG,(fun _=>⟨rfl,by rw[← GT.out.1];congr 1;have:=HI.out;omega⟩),Jp,nV⟩
  case measure=>simp[intOf];omega
 have Mj:i=bn:=by omega
 subst Mj;have HR:Hid ((List.range i).map (te key nonce b block)=qw key nonce b block):=by rw[Hid,qw,HN.out.2.2.1]
 clear ME hE xg;go_wp2_with fail
 go_ret
 exact⟨_,rfl,by rw[← HR.out];exact hO,hb⟩
def oJ (aad:List UInt8):List UInt8:=if aad.length=0 then [] else pF (rF aad)
theorem ke (aad:List UInt8):(oJ aad).length≤aad.length+32∧(oJ aad).length%16=0:=by
 unfold oJ
 split
 ·simp
 rw[rW];simp[rF];omega
theorem bU (nonce aad plain:List UInt8) (t:Nat):pV nonce aad plain t=vC (vl nonce aad t) nonce plain.length++oJ aad++pF plain:=rfl
theorem Zv (x B:List UInt8) (i:Nat):xG x ((B.drop i).take 16)=(List.range 16).map fun k=>at_ x k ^^^ at_ B (i+k):=by
 apply List.map_congr_left
 intro k hk
 have h:=az (l:=B) (off:=i) (n:=16) (k:=k) (by simpa using hk);rw[qE]at h;rw[h]
theorem UT {KA:Option Addr}{kc:Nat}{key:List UInt8}(hk:key.length=16) {NA:Option Addr}{nn nc:Nat}{nonce:List UInt8}(wd:nn=nonce.length) (fX:nonce.length≤13) {AA:Option Addr}{an ac:Nat}{aad:List UInt8}(han:an=aad.length) (hal:aad.length≤4096) {PA:Option Addr}{pn pc:Nat}{plain:List UInt8}(hpn:pn=plain.length) (ng:plain.length≤8192) (t:Nat) (ht:4≤t∧t≤16) (w:World)
  (hK:Src w KA (key.map zv)) (hN:Src w NA (nonce.map zv)) (hA:Src w AA (aad.map zv)) (hP:Src w PA (plain.map zv)) :
  Calls Tryz.prog 85 #[.slice KA 16 kc,.slice NA nn nc,.slice AA an ac,.slice PA pn pc,.int .i64 (t:Int)] w fun e w'=>∃ v,e=.returned v∧Fresh w (qF key nonce aad plain t) v w':=by
 have HN:=Hh (And.intro hk (And.intro wd (And.intro fX (And.intro han (And.intro hal (And.intro hpn (And.intro ng ht)))))));have HS:=Hh (And.intro hK (And.intro hN (And.intro hA hP)));obtain⟨t2,Th⟩:∃ q,t/2=q:=⟨_,rfl⟩
 have T2:(t:Int).tdiv 2=(t2:Int):=by rw[← Th];exact(Int.ofNat_tdiv t 2).symm
 have T2':(t:Int)/2=(t2:Int):=by rw[← Th];omega
 have V0:IntKind.i64.wrap (t2:Int)=(t2:Int):=zP (by omega);obtain⟨a1,Yr⟩:∃ q,t2-1=q:=⟨_,rfl⟩
 have V1:IntKind.i64.wrap ((t2:Int)-1)=(a1:Int):=by rw[show(t2:Int)-1=(a1:Int) by omega];exact zP (by omega)
 obtain⟨a2,WN⟩:∃ q,8*a1=q:=⟨_,rfl⟩
 have V2:IntKind.i64.wrap (8*(a1:Int))=(a2:Int):=by rw[show 8*(a1:Int)=(a2:Int) by omega];exact zP (by omega)
 obtain⟨a3,FZ⟩:∃ q,a2+14=q:=⟨_,rfl⟩
 have V3:IntKind.i64.wrap ((a2:Int)+14)=(a3:Int):=by rw[show(a2:Int)+14=(a3:Int) by omega];exact zP (by omega)
 obtain⟨a4,Fa⟩:∃ q,a3-nn=q:=⟨_,rfl⟩
 have V4:IntKind.i64.wrap ((a3:Int)-(nn:Int))=(a4:Int):=by rw[show(a3:Int)-(nn:Int)=(a4:Int) by omega];exact zP (by omega)
 obtain⟨a5,I5⟩:∃ q,a4+64=q:=⟨_,rfl⟩
 have V5:IntKind.i64.wrap ((a4:Int)+64)=(a5:Int):=by rw[show(a4:Int)+64=(a5:Int) by omega];exact zP (by omega)
 have HF:Hid (a5<256∧(aad.length=0→UInt8.ofNat a4=vl nonce aad t)∧(aad.length≠0→UInt8.ofNat a5=vl nonce aad t)):=by
  refine⟨by omega,fun h=>?_,fun h=>?_⟩
  ·rw[vl,if_pos h];congr 1;omega
  rw[vl,if_neg h];congr 1;omega
 have Iy:=Hh I5;clear hk wd fX han hal hpn ng ht hK hN hA hP Th Yr WN FZ Fa I5;go_enter Tryz.func85,Tryz.ntmps85
 go_upto_if 26 with fail
 clear T2 T2' V0 V1 V2 V3 V4;go_cut [11,12] (fun s11 s12 wx=>∃ (fi:Nat) (BA:Option Addr) (bl bc:Nat),s11=.int .i64 (fi:Int)∧fi<256∧UInt8.ofNat fi=vl nonce aad t∧s12=.slice BA bl bc∧bl=(oJ aad).length∧OwnB wx w.heap.size (.slice BA bl bc) (oJ aad)∧Below w.heap.size w wx)
 case first =>
  by_cases h0:an=0
  ·have hz:aad.length=0:=by have:=HN.out;omega
   have e0:oJ aad=[]:=by rw[oJ,if_pos hz]
   have HE:=Hh (And.intro hz e0);subst h0;clear hz e0;go_wp2_with fail
   go_meet
   exact⟨a4,none,0,0,rfl,by have:=HF.out;have:=Iy.out;omega,HF.out.2.1 HE.out.1,rfl,by rw[HE.out.2];rfl,by rw[HE.out.2];exact OwnB.nil _ _,Below.refl _ _⟩
  have hz:aad.length≠0:=by have:=HN.out;omega
  have e0:oJ aad=pF (rF aad):=by rw[oJ,if_neg hz]
  have Q4:(0:Int)<(an:Int):=by omega
  have HE:=Hh (And.intro hz e0);obtain⟨x0,dY⟩:∃ x,UInt8.ofNat (aad.length/256%256)=x:=⟨_,rfl⟩
  obtain⟨x1,jn⟩:∃ x,UInt8.ofNat (aad.length%256)=x:=⟨_,rfl⟩
  have n0:x0.toNat=an/256%256:=by rw[← dY,UInt8.toNat_ofNat_of_lt' (by have:=Nat.mod_lt (aad.length/256) (show 0<256 by omega);simpa using this),HN.out.2.2.2.1]
  have n1:x1.toNat=an%256:=by rw[← jn,UInt8.toNat_ofNat_of_lt' (by have:=Nat.mod_lt aad.length (show 0<256 by omega);simpa using this),HN.out.2.2.2.1]
  have E0:(an:Int)/256%256=(x0.toNat:Int):=by omega
  have E1:(an:Int)%256=(x1.toNat:Int):=by omega
  have HX:Hid (rF aad=[x0,x1]++aad):=by rw[Hid,rF,dY,jn];rfl
  have Ho:=OwnB.lit w w.heap.size [x0,x1] #[.int .u8 (x0.toNat:Int),.int .u8 (x1.toNat:Int)] 2 rfl rfl (Nat.le_refl _) (by simp);have xz:=zq w (.cells #[.int .u8 (x0.toNat:Int),.int .u8 (x1.toNat:Int)] 5);have TX:=HS.out.2.2.1.alloc (.cells #[.int .u8 (x0.toNat:Int),.int .u8 (x1.toNat:Int)] 5);clear dY jn n0 n1 hz e0 h0;go_wp2_with (at_builtin;refine zO ?_)
  unfold yy
  try rw[E0,E1]
  refine zn rfl (.tmp 36) (.tmp 37) rfl w.heap.size (.slice (some ⟨w.heap.size,0,none⟩) 2 2) [x0,x1] rfl Ho AA an ac aad rfl HN.out.2.2.2.1 TX (by have:=HN.out;simp;omega) xz.size fun v' w1 wK fd hat1=>?_
  rw[← HX.out]at wK;have zH:=xz.grown fd xz.size (fun q hq=>by injection hq with hq;exact Nat.le_of_eq hq);obtain⟨VA,vc,rfl,wZ,_,_⟩:=wK.form;obtain⟨LA,MQ⟩:∃ L,rF aad=L:=⟨_,rfl⟩
  have WB:Hid (oJ aad=pF LA∧LA.length≤1048576):=⟨by rw[HE.out.2,MQ],by rw[← MQ,rF];have:=HN.out;simp;omega⟩
  rw[MQ]at wK⊢;have PD:=Hh (kQ (n:=LA.length) (c:=vc) rfl WB.out.2 w1 wK.src);obtain⟨ln,QQ⟩:∃ n,LA.length=n:=⟨_,rfl⟩
  rw[QQ]at PD⊢;clear wZ Ho xz TX fd hat1 MQ E0 E1 wK QQ;go_wp2_with fail
  refine PD.out.mono ?_
  rintro e w2 ⟨v2,rfl,jU⟩
  obtain⟨VB,vd,rfl,wZ,_,_⟩:=jU.own.form;have pG:=jU.own.more zH.size;rw[← WB.out.1]at pG⊢;have zG:=zH.trans (jU.2.mono zH.size);clear PD wZ jU zH;obtain⟨bl,uD⟩:∃ n,(oJ aad).length=n:=⟨_,rfl⟩
  rw[uD]at pG⊢;have fZ:=Hh uD;clear uD;go_wp2_with fail
  go_meet
  exact⟨a5,VB,bl,vd,rfl,HF.out.1,HF.out.2.2 HE.out.1,rfl,fZ.out.symm,pG,zG⟩
 case rest =>
 obtain⟨fi,BA,bl,bc,rfl,IG,PX,rfl,uD,hO,hb⟩:=hcut;have CT0:=mh (A:=NA) (c:=nc) HN.out.2.1 (by have:=HN.out;omega) fi IG pn (by have:=HN.out;omega) _ (HS.out.2.1.below hb);obtain⟨CL,YQ⟩:∃ CL,vC (UInt8.ofNat fi) nonce pn=CL:=⟨_,rfl⟩
 rw[YQ]at CT0;have sD:CL.length=16:=by rw[← YQ];exact tU _ HN.out.2.2.1 _
 rw[PX,HN.out.2.2.2.2.2.1]at YQ;have CT:=Hh CT0;have Vz:=Hh (And.intro YQ sD);have fZ:=Hh uD;clear CT0 YQ sD PX IG uD V5;go_wp2_with fail
 refine CT.out.mono ?_
 rintro e w5 ⟨v5,rfl,wL⟩
 clear CT;obtain⟨CA,cc,rfl,wZ,_,_⟩:=wL.own.form;have xS:=wL.own.more hb.size;rw[Vz.out.2]at xS⊢;have SR:=(hO.below wL.2).src;have yN:=hb.trans (wL.2.mono hb.size);clear wZ wL hb hO;go_wp2_with (at_builtin;refine zO ?_)
 refine zn rfl (.tmp 44) (.tmp 45) rfl w.heap.size (.slice CA 16 cc) CL rfl xS BA bl bc (oJ aad) rfl fZ.out SR (by have h1:=Vz.out.2;have h2:=(ke aad).1;have h3:=HN.out;omega) yN.size fun v' w6 rq xO Uu=>?_
 obtain⟨B1,yO⟩:∃ B1,CL++oJ aad=B1:=⟨_,rfl⟩
 obtain⟨b1,zH⟩:∃ n,B1.length=n:=⟨_,rfl⟩
 rw[yO]at rq;obtain⟨VA,vc,rfl,wZ,_,_⟩:=rq.form;rw[zH]at rq⊢;have xT:=yN.grown xO yN.size (fun q hq=>(xS.lt q hq).1);have GN:=Hh (And.intro yO zH);have PD:=Hh (kQ (n:=pn) (c:=pc) HN.out.2.2.2.2.2.1 (by have:=HN.out;omega) w6 (HS.out.2.2.2.below xT));clear yO zH wZ xS SR yN xO Uu;go_wp2_with fail
 refine PD.out.mono ?_
 rintro e w7 ⟨v7,rfl,Yc⟩
 obtain⟨VB,vd,rfl,wZ,_,_⟩:=Yc.own.form;have wj:=rq.below Yc.2;have Sd:=Yc.own.src;have vh:=xT.trans (Yc.2.mono xT.size);obtain⟨PL,Vg⟩:∃ PL,pF plain=PL:=⟨_,rfl⟩
 rw[Vg]at Sd⊢;obtain⟨pl,ng⟩:∃ n,PL.length=n:=⟨_,rfl⟩
 rw[ng];have fm:Hid (pF plain=PL∧PL.length=pl∧pl=16*((plain.length+15)/16)):=⟨Vg,ng,by rw[← ng,← Vg,rW]⟩
 clear PD wZ Yc rq xT Vg ng;go_wp2_with (at_builtin;refine zO ?_)
 refine zn rfl (.tmp 46) (.tmp 48) rfl w.heap.size (.slice VA b1 vc) B1 rfl wj VB pl vd PL rfl fm.out.2.1.symm Sd (by have h5:=congrArg List.length GN.out.1;rw[List.length_append]at h5;have h1:=Vz.out.2;have h2:=(ke aad).1;have h3:=HN.out;have h4:=fm.out;omega) vh.size fun v' w8 na hg8 hat8=>?_
 obtain⟨B,hB⟩:∃ B,B1++PL=B:=⟨_,rfl⟩
 obtain⟨bn,nW⟩:∃ n,B.length=n:=⟨_,rfl⟩
 rw[hB]at na;obtain⟨DA,dc,rfl,wZ,_,_⟩:=na.form;rw[nW]at na⊢;have rm:=vh.grown hg8 vh.size (fun q hq=>(wj.lt q hq).1)
 have HB:Hid (pV nonce aad plain t=B∧B.length=bn∧bn%16=0∧bn≤100000):=by
  have h0:=GN.out;have h1:=Vz.out;have h2:=ke aad;have h3:=HN.out;have h4:=fm.out
  refine⟨by rw[bU,h1.1,h0.1,h4.1,hB],nW, ?_, ?_⟩
  ·rw[← nW,← hB,List.length_append,← h0.1,List.length_append];omega
  rw[← nW,← hB,List.length_append,← h0.1,List.length_append];omega
 clear hB nW wZ wj Sd vh hg8 hat8;go_wp2_with (at_make;refine zO ?_)
 unfold yy
 obtain⟨i0,uF,mP,rM,qg⟩:=info_parts gK
 refine wpList_make_full _ rfl _ _ 23 rfl w8.heap.size 5 i0 _ 1 Tryz.underlying23 uF mP rM _ _ _ _ 16 rfl rfl (by omega) (by omega) (by rw[qg];omega) (by simp only[maxLen];omega) (Nat.le_refl _) fun w9 YZ xr=>?_
 clear i0 uF mP rM qg
 have Mi:Fresh w8 (List.replicate 16 0) (.slice (some ⟨w8.heap.size,0,none⟩) 16 16) w9:=by
  refine⟨?_,yo xr⟩
  rw[List.length_replicate,← eL]
  exact YZ
 have hX:=Mi.own.more rm.size;have hO:=na.below Mi.2;have hb:=rm.trans (Mi.2.mono rm.size)
 have xg:∀ k,(Value.slice DA bn dc).ownBlock=some k→(Value.slice (some (⟨w8.heap.size,0,none⟩:Addr)) 16 16).ownBlock≠some k:=fun k hk ir=>by
  have h1:=(na.lt k hk).2;have h2:w8.heap.size=k:=by injection ir
  omega
 obtain⟨Z,hZ⟩:∃ Z:List UInt8,List.replicate 16 0=Z:=⟨_,rfl⟩
 have HZ:=Hh hZ;rw[hZ]at hX;obtain⟨XA0,Nw⟩:∃ A:Option Addr,some ⟨w8.heap.size,0,none⟩=A:=⟨_,rfl⟩
 rw[Nw]at hX xg⊢;clear hZ Nw YZ xr Mi na rm;go_wp2_with fail
 go_loopw [13,14] (fun v13 v14 wr=>∃ (j e:Nat) (XA:Option Addr) (xc:Nat) (X:List UInt8),v14=.int .i64 (e:Int)∧e=16*j∧e≤bn∧v13=.slice XA 16 xc∧Hid (vP key B Z j=X∧X.length=16)∧OwnB wr w.heap.size (.slice XA 16 xc) X∧OwnB wr w.heap.size (.slice DA bn dc) B∧(∀ k,(Value.slice DA bn dc).ownBlock=some k→(Value.slice XA 16 xc).ownBlock≠some k)∧Below w.heap.size w wr) (fun _ v14 _=>(bn-intOf v14).toNat)
 case atStart=>exact⟨0,0,XA0,16,Z,rfl,rfl,Nat.zero_le _,rfl,⟨rfl,by rw[← HZ.out];simp⟩,hX,hO,xg,hb⟩
 case round =>
 clear hX hO xg hb;obtain⟨j,e,XA,xc,X,rfl,he,zC,rfl,HX,hX,hO,xg,hb⟩:=hrel;have HE:=Hh (And.intro he zC);clear he zC
 by_cases zB:(e:Int)<(bn:Int)
 ·have tO:=HE.out;have Ny:e+16≤bn:=by have:=HB.out;omega
  have NS:=Hh Ny;have nS:IntKind.i64.wrap ((e:Int)+16)=((e+16:Nat):Int):=by rw[show(e:Int)+16=((e+16:Nat):Int) by omega];exact zP (by have:=HB.out;omega)
  obtain⟨e16,Rd⟩:∃ q,e+16=q:=⟨_,rfl⟩
  rw[Rd]at nS;obtain⟨G,hG⟩:∃ G:Nat→UInt8,(fun k=>at_ X k ^^^ at_ B (e+k))=G:=⟨_,rfl⟩
  have HG:Hid ((∀ k,G k=at_ X k ^^^ at_ B (e+k))∧(List.range 16).map G=xG X ((B.drop e).take 16)):=⟨fun k=>by rw[← hG],by rw[Zv,← hG]⟩
  have PT:OwnB wr w.heap.size (.slice XA 16 xc) (wW 16 G X 0):=by rw[wl _ HX.out.2];exact hX
  have R0:=Hh Rd;clear hX hG tO Ny Rd;go_wp2_with fail
  go_loopw [57] (fun v57 wx=>∃ k:Nat,v57=.int .i64 (k:Int)∧k≤16∧OwnB wx w.heap.size (.slice XA 16 xc) (wW 16 G X k)∧OwnB wx w.heap.size (.slice DA bn dc) B∧Below w.heap.size w wx) (fun v57 _=>(16-intOf v57).toNat)
  case atStart=>exact⟨0,rfl,by omega,PT,hO,hb⟩
  case round =>
  clear PT hO hb;obtain⟨k,rfl,hk,hX,hO,hb⟩:=hrel
  by_cases dp:(k:Int)<16
  ·obtain⟨gq,cur,rfl,QJ,WI,mN,jO⟩:=hX.store_ (k:=k) (by rw[xe];omega);obtain⟨b',off',LR,Iq⟩:=hX.src (by intro h0;have h1:=congrArg List.length h0;rw[List.length_map,xe]at h1;simp at h1);injection LR with LR
   injection LR with fh fj
   subst fh fj;have e0:=Iq k (zv (at_ X k)) (by rw[List.getElem?_map,List.getElem?_eq_getElem (by rw[xe];omega),Option.map_some,← lK (by rw[xe];omega),qx _ _ (by omega)]);rw[Nat.zero_add]at e0;obtain⟨ek,L4⟩:∃ q,e+k=q:=⟨_,rfl⟩
   have JU:ek<bn:=by have:=NS.out;omega
   have W1:IntKind.i64.wrap ((e:Int)+(k:Int))=(ek:Int):=by rw[← Int.natCast_add,L4];exact zP (by have:=HB.out;omega)
   have lek:(ek:Int)<(bn:Int):=by omega
   obtain⟨db,dof,rfl,Me⟩:=hO.src (by intro h0;rw[List.map_eq_nil_iff]at h0;have h1:=HB.out.2.1;rw[h0]at h1;simp at h1;omega);have e1:=Me ek (zv (at_ B ek)) (by have h1:=HB.out.2.1;rw[List.getElem?_map,List.getElem?_eq_getElem (by omega)];simp[at_,List.getD_eq_getElem?_getD,show ek<B.length by omega]);obtain⟨u,hu⟩:∃ u,at_ X k=u:=⟨_,rfl⟩
   obtain⟨v,hv⟩:∃ v,at_ B ek=v:=⟨_,rfl⟩
   rw[hu]at e0;rw[hv]at e1;have XX:=Hh (yn u v);have S1:=Hh (vZ (n:=16) (i:=k) G X (by omega));rw[HG.out.1,L4,hu,hv]at S1;clear hu hv L4 JU Iq Me;go_upto_region 14 with fail
   replace e0:=uV (Below.refl _ _).drew e0;replace e1:=uV (Below.refl _ _).drew e1
   refine zw 12 (fun wx=>wx.cell? ⟨gq,k,none⟩=some (zv u)∧wx.cell? ⟨db,dof+ek,none⟩=some (zv v)) (by kernel_rfl) (⟨e0,e1⟩) (fun zy=>?_)
   refine Tk 0 rfl zy ?_
   refine Tk 1 rfl zy ?_
   refine Tk 2 rfl zy ?_
   refine Tk 3 rfl zy ?_
   refine Tk 4 rfl zy ?_
   refine Tk 5 rfl zy ?_
   refine Tk 6 rfl zy ?_
   refine Tk 7 rfl zy ?_
   refine Tk 8 rfl zy ?_
   refine Tk 9 rfl zy ?_
   refine Tk 10 rfl zy ?_
   refine Tk 11 rfl zy ?_
   refine To 12 rfl fun K hK=>?_
   rw[if_pos (by rfl)]
   refine yW _ _ _ rfl gq k (zv (u ^^^ v)) rfl (by show Value.int .u8 (bits .xor .u8 (u.toNat:Int) (v.toNat:Int))=_;rw[XX.out]) _ _ WI.drew yM mN rfl fun w11 hB11 tZ=>?_
   refine Kz hK ?_
   clear hK K
   refine Wd ?_
   have Us:=jO w11 _ hB11;rw[S1.out]at Us;have JG:=(hO.below (Below.refl _ _).drew).kept tZ (.inr (fun e=>xg _ e rfl));have JO:=hb.drew.grown tZ hb.drew.size (by rintro q ⟨⟩;exact QJ);clear zy hX hO hb WI mN jO hB11 tZ e0 e1 W1 lek XX S1;go_wp2_with fail
   go_roundw
   case rel=>exact⟨k+1,by go_num,by omega,Us,JG,JO⟩
   case measure=>simp[intOf];omega
  obtain rfl:k=16:=by omega
  rw[show((16:Nat):Int)=16 from rfl];rw[uU,HG.out.2]at hX;obtain⟨XL,Mc⟩:∃ L,xG X ((B.drop e).take 16)=L:=⟨_,rfl⟩
  have dZ:XL.length=16:=by rw[← Mc];exact yf _ _
  rw[Mc]at hX;obtain⟨EL,Vb⟩:∃ EL,qz key XL=EL:=⟨_,rfl⟩
  have Rz:Hid (EL.length=16∧vP key B Z (j+1)=EL):=⟨by rw[← Vb];exact uH _ _,by rw[vP,HX.out.1,← HE.out.1,Mc,Vb]⟩
  have EN:=Hh (mg HN.out.1 dZ (A:=KA) (ac:=kc) (C:=XA) (bc:=xc) _ (HS.out.1.below hb) hX.src);rw[Vb]at EN;clear Mc dZ Vb dp;go_wp2_with fail
  refine EN.out.mono ?_
  rintro e' w12 ⟨v12,rfl,aA⟩
  clear EN;obtain⟨YA,yc,rfl,wZ,_,_⟩:=aA.own.form;have hY:=aA.own.more hb.size;rw[Rz.out.1]at hY⊢;have JH:=hO.below aA.2;have RV:=hb.trans (aA.2.mono hb.size)
  have NF:∀ k,(Value.slice DA bn dc).ownBlock=some k→(Value.slice YA 16 yc).ownBlock≠some k:=fun k hk ir=>by
   have h1:=(hO.lt k hk).2;have h2:=(aA.own.lt k (by cases YA <;> simp_all [Value.ownBlock])).1
   omega
  clear wZ hX hO hb aA xg;go_wp2_with fail
  go_roundw
  case rel=>exact⟨j+1,e16,YA,yc,EL,by first | rfl | go_num,by have:=HE.out;have:=R0.out;omega,by have:=NS.out;have:=R0.out;omega,rfl,⟨Rz.out.2,Rz.out.1⟩,hY,JH,NF,RV⟩
  case measure=>have:=R0.out;simp[intOf];omega
 have hj:j=bn/16:=by have:=HE.out;omega
 have HR:Hid (X=qF key nonce aad plain t):=by
  rw[Hid,← HX.out.1,hj,← Jy key nonce aad plain HN.out.2.2.1 t,HB.out.1,HB.out.2.1,HZ.out]
 clear hj xg hO;go_wp2_with fail
 go_ret
 exact⟨_,rfl,by rw[← HR.out];show OwnB wr w.heap.size _ X;exact hX,hb⟩
theorem Wy (key nonce tag:List UInt8):(uv key nonce tag).length=16:=yf _ _
theorem kM {KA:Option Addr}{kn kc:Nat}{key:List UInt8}(uN:kn=key.length) {NA:Option Addr}{nn nc:Nat}{nonce:List UInt8}(wd:nn=nonce.length)
  {AA:Option Addr} {an ac:Nat} {aad:List UInt8} (han:an=aad.length) {PA:Option Addr} {pn pc:Nat} {plain:List UInt8} (hpn:pn=plain.length)
  (t:Nat) (ht:t≤16) (w:World) (hsk:Src w KA (key.map zv)) (hsn:Src w NA (nonce.map zv)) (nh:Src w AA (aad.map zv)) (ni:Src w PA (plain.map zv)) :
  Calls Tryz.prog 36 #[.slice KA kn kc,.slice NA nn nc,.slice AA an ac,.slice PA pn pc,.int .i64 (t:Int)] w (wI w (wO key nonce aad plain t)):=by
 have V:=Hh (me (KA:=KA) (kn:=kn) (kc:=kc) (NA:=NA) (nn:=nn) (nc:=nc) t (by omega) w);have HN:=Hh (And.intro uN (And.intro wd (And.intro han (And.intro hpn ht))));have HS:=Hh (And.intro hsk (And.intro hsn (And.intro nh ni)))
 have NO:∀ r:Int×List UInt8,wO key nonce aad plain t=r→r.2=[]→Hid (wI w (wO key nonce aad plain t) (.returned (.tuple #[.slice none 0 0,.int .i64 r.1])) w):=by
  rintro r rfl h
  exact⟨_,rfl,by rw[h];exact OwnB.nil _ _,Below.refl _ _⟩
 cases hv:yk kn nn t with
 | false =>
  have N1:=NO (1,[]) (by rw[wO,← uN,← wd,if_pos hv]) rfl;rw[hv]at V;clear NO uN wd han hpn ht hsk hsn nh ni hv;go_enter Tryz.func36,Tryz.ntmps36
  go_wp2_with fail
  refine V.out.mono ?_
  rintro e w1 ⟨rfl,rfl⟩
  go_wp2_with fail
  go_ret2
  exact N1.out
 | true =>
 have HV:Hid (kn=16∧7≤nn∧nn≤13∧4≤t):=by
  simp only[yk,Bool.and_eq_true,decide_eq_true_eq]at hv
  exact⟨hv.1.1.1.1.1,hv.1.1.1.1.2,hv.1.1.1.2,hv.1.1.2⟩
 rw[hv]at V
 by_cases hbig:(4096:Int)<(an:Int)∨(4096:Int)<(pn:Int)
 ·have N1:=NO (8,[]) (by rw[wO,← uN,← wd,if_neg (by rw[hv];decide),if_pos (by omega)]) rfl;clear NO uN wd han hpn ht hsk hsn nh ni hv
  by_cases h1:(4096:Int)<(an:Int)
  ·clear hbig;go_enter Tryz.func36,Tryz.ntmps36
   go_wp2_with fail
   refine V.out.mono ?_
   rintro e w1 ⟨rfl,rfl⟩
   go_wp2_with fail
   go_ret2
   exact N1.out
  have h2:(4096:Int)<(pn:Int):=by omega
  clear hbig;go_enter Tryz.func36,Tryz.ntmps36
  go_wp2_with fail
  refine V.out.mono ?_
  rintro e w1 ⟨rfl,rfl⟩
  go_wp2_with fail
  go_ret2
  exact N1.out
 have E:Hid (wO key nonce aad plain t=(0,rf key nonce aad plain t)):=by rw[Hid,wO,← uN,← wd,if_neg (by rw[hv];decide),if_neg (by omega)]
 have h1:¬ (4096:Int)<(an:Int):=by omega
 have h2:¬ (4096:Int)<(pn:Int):=by omega
 have HB:Hid (an≤4096∧pn≤4096):=by rw[Hid];omega
 clear NO hbig uN wd han hpn ht hsk hsn nh ni hv;obtain rfl:kn=16:=HV.out.1;have lW:key.length=16:=HN.out.1.symm;have HK:=Hh lW;clear lW;go_enter Tryz.func36,Tryz.ntmps36
 go_wp2_with fail
 refine V.out.mono ?_
 rintro e w1 ⟨rfl,rfl⟩
 clear V;have S1:=oX HK.out (kc:=kc) HN.out.2.1 (nc:=nc) (by have:=HV.out;have:=HN.out;omega) HN.out.2.2.2.1 (bc:=pc) (by have:=HB.out;have:=HN.out;omega) 1 (Nat.le_refl _) w HS.out.1 HS.out.2.1 HS.out.2.2.2;rw[mo]at S1;obtain⟨SL,MY⟩:∃ L,rj key nonce plain=L:=⟨_,rfl⟩
 rw[MY]at S1;have lw:=Hh (And.intro MY (show SL.length=pn by rw[← MY,vN,HN.out.2.2.2.1]));have S1h:=Hh S1;clear S1 MY;go_wp2_with fail
 refine S1h.out.mono ?_
 rintro e w2 ⟨v2,rfl,jU⟩
 clear S1h;obtain⟨SA,sc,rfl,wZ,_,_⟩:=jU.own.form;have hO:=jU.own;rw[lw.out.2]at hO⊢;have hb:=jU.2;have MC:=UT HK.out (kc:=kc) HN.out.2.1 (nc:=nc) (by have:=HV.out;have:=HN.out;omega) HN.out.2.2.1 (ac:=ac) (by have:=HB.out;have:=HN.out;omega) HN.out.2.2.2.1 (pc:=pc) (by have:=HB.out;have:=HN.out;omega) t (by have:=HV.out;have:=HN.out;omega) w2 (HS.out.1.below hb) (HS.out.2.1.below hb) (HS.out.2.2.1.below hb) (HS.out.2.2.2.below hb);obtain⟨TL,Ma⟩:∃ L,qF key nonce aad plain t=L:=⟨_,rfl⟩
 rw[Ma]at MC;have fa:=Hh (And.intro Ma (show TL.length=16 by rw[← Ma,oB]));have MCh:=Hh MC;clear MC Ma wZ jU;go_wp2_with fail
 refine MCh.out.mono ?_
 rintro e w3 ⟨v3,rfl,WO⟩
 clear MCh;obtain⟨MA,mc,rfl,wZ,_,_⟩:=WO.own.form;have hT:=WO.own.src;rw[fa.out.2]at⊢;replace hO:=hO.below WO.2;replace hb:=hb.trans (WO.2.mono hb.size);have S2:=oX HK.out (kc:=kc) HN.out.2.1 (nc:=nc) (by have:=HV.out;have:=HN.out;omega) (bn:=16) fa.out.2.symm (BA:=MA) (bc:=mc) (by have:=fa.out;omega) 0 (by omega) w3 (HS.out.1.below hb) (HS.out.2.1.below hb) hT;rw[gF _ _ fa.out.2]at S2;obtain⟨ML,MS⟩:∃ L,uv key nonce TL=L:=⟨_,rfl⟩
 rw[MS]at S2;have KK:=Hh (And.intro MS (show ML.length=16 by rw[← MS,Wy]));have S2h:=Hh S2;clear S2 MS wZ WO hT;go_wp2_with fail
 refine S2h.out.mono ?_
 rintro e w4 ⟨v4,rfl,Mh⟩
 clear S2h;obtain⟨NA4,mc4,rfl,wZ,_,Ss⟩:=Mh.own.form;rw[KK.out.2]at wZ⊢;replace hO:=hO.below Mh.2;replace hb:=hb.trans (Mh.2.mono hb.size);have WU:(0:Int)≤(t:Int):=by omega
 have Dc:(t:Int)≤(mc4:Int):=by have:=HN.out;omega
 have Lz:Hid ((ML.take t).length=t):=by rw[Hid,List.length_take,KK.out.2];have:=HN.out;omega
 have LY:=tp t Ss;clear wZ Mh Ss;go_wp2_with (at_builtin;refine zO ?_)
 refine zn rfl (.tmp 30) (.tmp 41) rfl w.heap.size (.slice SA pn sc) SL rfl hO NA4 t mc4 (ML.take t) rfl Lz.out.symm LY (by have h1:=lw.out.2;have h2:=Lz.out;have h3:=HB.out;have h4:=HN.out;omega) hb.size fun v' w5 xS yF ve=>?_
 have yN:=hb.grown yF hb.size (fun q hq=>(hO.lt q hq).1);have HR:Hid (rf key nonce aad plain t=SL++ML.take t):=by rw[Hid,rf,lw.out.1,fa.out.1,KK.out.1]
 clear hO hb yF ve LY;go_wp2_with fail
 go_ret2
 refine⟨v',by rw[E.out];rfl,by rw[E.out];show OwnB w5 w.heap.size v' (rf key nonce aad plain t);rw[HR.out];exact xS,yN⟩
theorem Qu {a b:List UInt8}(h:(a==b)=false):(⟨a.toArray⟩:ByteArray)≠⟨b.toArray⟩:=fun e=>by
 injection e with e
 have e2:=congrArg Array.toList e
 simp only[List.toList_toArray]at e2
 rw[e2]at h
 simp at h
theorem Ug {s1 s2:ByteArray}(xg:s1≠s2):(s1.toList==s2.toList)=false:=by
 cases h:(s1.toList==s2.toList) with
 | false=>rfl
 | true=>exact absurd (by have:=beq_iff_eq.1 h;rw[ByteArray.toList_eq,ByteArray.toList_eq]at this;exact ByteArray.ext (Array.toList_inj.1 this)) xg
theorem cS {KA:Option Addr}{kn kc:Nat}{key:List UInt8}(uN:kn=key.length) {NA:Option Addr}{nn nc:Nat}{nonce:List UInt8}(wd:nn=nonce.length)
  {AA:Option Addr} {an ac:Nat} {aad:List UInt8} (han:an=aad.length) {CA:Option Addr} {cn cc:Nat} {cipher:List UInt8} (Sj:cn=cipher.length) (hcc:cn≤cc)
  (t:Nat) (ht:t≤16) (w:World) (hsk:Src w KA (key.map zv)) (hsn:Src w NA (nonce.map zv)) (nh:Src w AA (aad.map zv)) (Vt:Src w CA (cipher.map zv)) :
  Calls Tryz.prog 40 #[.slice KA kn kc,.slice NA nn nc,.slice AA an ac,.slice CA cn cc,.int .i64 (t:Int)] w (wI w (wD key nonce aad cipher t)):=by
 have V:=Hh (me (KA:=KA) (kn:=kn) (kc:=kc) (NA:=NA) (nn:=nn) (nc:=nc) t (by omega) w);have HN:=Hh (And.intro uN (And.intro wd (And.intro han (And.intro Sj (And.intro ht hcc)))));have HS:=Hh (And.intro hsk (And.intro hsn (And.intro nh Vt)))
 have NO:∀ c:Int,wD key nonce aad cipher t=(c,[])→∀ w',Below w.heap.size w w'→Hid (wI w (wD key nonce aad cipher t) (.returned (.tuple #[.slice none 0 0,.int .i64 c])) w'):=by
  intro c h w' hb
  rw[h]
  exact⟨_,rfl,OwnB.nil _ _,hb⟩
 have t4:IntKind.i64.wrap (4096+(t:Int))=4096+(t:Int):=IntWalk.i64_in _ (by omega)
 cases hv:yk kn nn t with
 | false =>
  have N1:=NO 1 (by rw[wD,← uN,← wd,if_pos hv]) w (Below.refl _ _);rw[hv]at V;clear NO uN wd han Sj hcc ht hsk hsn nh Vt hv;go_enter Tryz.func40,Tryz.ntmps40
  go_wp2_with fail
  refine V.out.mono ?_
  rintro e w1 ⟨rfl,rfl⟩
  go_wp2_with fail
  go_ret2
  exact N1.out
 | true =>
 have HV:Hid (kn=16∧7≤nn∧nn≤13∧4≤t∧yk kn nn t=true):=by
  have tG:=hv
  simp only[yk,Bool.and_eq_true,decide_eq_true_eq]at tG
  exact⟨tG.1.1.1.1.1,tG.1.1.1.1.2,tG.1.1.1.2,tG.1.1.2,hv⟩
 rw[hv]at V
 by_cases h1:(4096:Int)<(an:Int)
 ·have N1:=NO 8 (by rw[wD,← uN,← wd,if_neg (by rw[hv];decide),if_pos (by omega)]) w (Below.refl _ _);clear NO uN wd han Sj hcc ht hsk hsn nh Vt hv;go_enter Tryz.func40,Tryz.ntmps40
  go_wp2_with fail
  refine V.out.mono ?_
  rintro e w1 ⟨rfl,rfl⟩
  go_wp2_with fail
  go_ret2
  exact N1.out
 by_cases h2:4096+(t:Int)<(cn:Int)
 ·have N1:=NO 8 (by rw[wD,← uN,← wd,if_neg (by rw[hv];decide),if_pos (by omega)]) w (Below.refl _ _);clear NO uN wd han Sj hcc ht hsk hsn nh Vt hv;go_enter Tryz.func40,Tryz.ntmps40
  go_wp2_with fail
  refine V.out.mono ?_
  rintro e w1 ⟨rfl,rfl⟩
  go_wp2_with fail
  go_ret2
  exact N1.out
 by_cases h3:(cn:Int)<(t:Int)
 ·have N1:=NO 2 (by rw[wD,← uN,← wd,if_neg (by rw[hv];decide),if_neg (by omega),if_pos (by omega)]) w (Below.refl _ _);clear NO uN wd han Sj hcc ht hsk hsn nh Vt hv;go_enter Tryz.func40,Tryz.ntmps40
  go_wp2_with fail
  refine V.out.mono ?_
  rintro e w1 ⟨rfl,rfl⟩
  go_wp2_with fail
  go_ret2
  exact N1.out
 have E:Hid (wD key nonce aad cipher t=if rv key nonce aad cipher t=false then(11,[]) else(0,tW key nonce cipher t)):=by rw[Hid,wD,← uN,← wd,if_neg (by rw[hv];decide),if_neg (by omega),if_neg (by omega)]
 have HB:Hid (an≤4096∧cn≤4096+t∧t≤cn):=by rw[Hid];omega
 obtain⟨m,hm⟩:∃ m,cn-t=m:=⟨_,rfl⟩
 have W1:IntKind.i64.wrap ((cn:Int)-(t:Int))=(m:Int):=by rw[show(cn:Int)-(t:Int)=(m:Int) by omega];exact zP (by omega)
 have HM:=Hh hm;have m0:(m:Int)≤(cc:Int):=by omega
 have ow:=Hh NO;clear NO uN wd han Sj hcc ht hsk hsn nh Vt hv hm;obtain rfl:kn=16:=HV.out.1;have lW:key.length=16:=HN.out.1.symm;have HK:=Hh lW;clear lW;go_enter Tryz.func40,Tryz.ntmps40
 go_wp2_with fail
 refine V.out.mono ?_
 rintro e w1 ⟨rfl,rfl⟩
 clear V;obtain⟨CT,P5⟩:∃ L,cipher.take m=L:=⟨_,rfl⟩
 have dO:Hid (cipher.take m=CT∧CT.length=m):=⟨P5,by rw[← P5,List.length_take];have:=HN.out;have:=HM.out;omega⟩
 have S1:=oX HK.out (kc:=kc) HN.out.2.1 (nc:=nc) (by have:=HV.out;have:=HN.out;omega) (bn:=m) dO.out.2.symm (BA:=CA) (bc:=cc) (by have:=dO.out.2;have:=HB.out;have:=HM.out;have:=HN.out;omega) 1 (Nat.le_refl _) w HS.out.1 HS.out.2.1 (by rw[← P5];exact tp m HS.out.2.2.2);rw[mo]at S1;obtain⟨PL,Vg⟩:∃ L,rj key nonce CT=L:=⟨_,rfl⟩
 rw[Vg]at S1;have fm:Hid (tW key nonce cipher t=PL∧PL.length=m):=⟨by rw[tW,← HN.out.2.2.2.1,HM.out,P5,Vg],by rw[← Vg,vN];exact dO.out.2⟩
 have S1h:=Hh S1;clear S1 Vg P5;go_wp2_with fail
 refine S1h.out.mono ?_
 rintro e w2 ⟨v2,rfl,jU⟩
 clear S1h W1 m0;obtain⟨SA,sc,rfl,wZ,_,_⟩:=jU.own.form;have hO:=jU.own;rw[fm.out.2]at hO⊢;have hb:=jU.2;obtain⟨Q,hQ⟩:∃ Q,rf key nonce aad PL t=Q:=⟨_,rfl⟩
 have HQ:Hid (wO key nonce aad PL t=(0,Q)∧(Q==cipher)=rv key nonce aad cipher t):=by
  have h1:=HN.out;have h2:=HB.out;have h3:=fm.out;have h4:=HM.out
  refine⟨?_, ?_⟩
  ·rw[wO,← h1.1,← h1.2.1,if_neg (by rw[HV.out.2.2.2.2];decide),if_neg (by omega),hQ]
  rw[← hQ,← h3.1]
  exact NN (by omega) (by omega)
 have SE:=kM (KA:=KA) (kc:=kc) HN.out.1 (NA:=NA) (nc:=nc) HN.out.2.1 (AA:=AA) (ac:=ac) HN.out.2.2.1 (PA:=SA) (pn:=m) (pc:=sc) fm.out.2.symm t HN.out.2.2.2.2.1 w2 (HS.out.1.below hb) (HS.out.2.1.below hb) (HS.out.2.2.1.below hb) jU.own.src;rw[HQ.out.1]at SE;have SEh:=Hh SE;clear SE wZ jU hQ;go_wp2_with fail
 refine SEh.out.mono ?_
 rintro e w3 ⟨v3,rfl,oP,xn⟩
 clear SEh;have RM:OwnB w3 w2.heap.size v3 Q:=oP;obtain⟨QA,qc,rfl,wZ,_,LS⟩:=RM.form;replace hO:=hO.below xn;replace hb:=hb.trans (xn.mono hb.size);have uE:=HS.out.2.2.2.below hb;obtain⟨qn,Mn⟩:∃ n,Q.length=n:=⟨_,rfl⟩
 obtain⟨s1,vT⟩:∃ s,(⟨Q.toArray⟩:ByteArray)=s:=⟨_,rfl⟩
 have V1:(convert 23 9 (.slice QA qn qc)).run Tryz.prog w3=.ok (.string s1) w3:=by
  rw[← vT]
  exact xV LS qn qc Mn.symm
 rw[Mn]
 cases hr:rv key nonce aad cipher t with
 | true =>
  have Ib:Q=cipher:=by have h:=HQ.out.2;rw[hr]at h;exact eq_of_beq h
  have V2:(convert 23 9 (.slice CA cn cc)).run Tryz.prog w3=.ok (.string s1) w3:=by
   rw[← vT,Ib]
   exact xV uE cn cc HN.out.2.2.2.1
  have N1:Hid (wI w (wD key nonce aad cipher t) (.returned (.tuple #[.slice SA m sc,.int .i64 0])) w3):=by
   rw[E.out,if_neg (by rw[hr];decide)]
   exact⟨_,rfl,by show OwnB w3 w.heap.size _ (tW key nonce cipher t);rw[fm.out.1];exact hO,hb⟩
  clear Ib oP RM wZ hO hb xn LS uE Mn vT hr;go_wp2_with fail
  go_ret2
  exact N1.out
 | false =>
 obtain⟨s2,dw⟩:∃ s,(⟨cipher.toArray⟩:ByteArray)=s:=⟨_,rfl⟩
 have V2:(convert 23 9 (.slice CA cn cc)).run Tryz.prog w3=.ok (.string s2) w3:=by
  rw[← dw]
  exact xV uE cn cc HN.out.2.2.2.1
 have xg:=Qu (a:=Q) (b:=cipher) (by rw[HQ.out.2,hr]);rw[vT,dw]at xg;have f3:=Ug xg;have f1:(s1=s2)=False:=eq_false xg;have f2:(s1==s2)=false:=by rw[beq_toListBytes];exact f3
 have f4:(s1 != s2)=true:=by rw[bne,f2];rfl
 have f5:(s1.toList != s2.toList)=true:=by rw[bne,f3];rfl
 have N1:=ow.out 11 (by rw[E.out,if_pos hr]) w3 hb;clear xg oP RM wZ hO hb xn LS uE Mn vT dw hr;go_wp2_with fail
 go_ret2
 exact N1.out
end Go.Proofs.YtliomcphdnppnaaGreatDoor
