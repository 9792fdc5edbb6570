/- squeezed. Walks: Valid and Seal, by the prog -/
import Derived.Test.YtkmlnjociijpgaaGreatDoorK10
set_option linter.unusedVariables false
set_option linter.unusedSimpArgs false
set_option maxRecDepth 100000
set_option maxHeartbeats 25600000
namespace Go.Proofs.YtkmlnjociijpgaaGreatDoor
open Go.RowKit
theorem jam{P:Prop}(h:P:=by
 refine Ko hK ?_ fun zy=>?_
 ·trivial
 clear hK K
 refine To 6 rfl fun K hK=>?_
 go_simp
 have ST:=oq BS (nc:=nc) HN.out (by have:=HV.out;have:=HN.out;omega) (TA:=PA) (tn:=m) (tc:=pc) (text:=cipher.take m) TK.out (by have:=HB.out;have:=TK.out;have:=HT.out;omega) (tag:=G) Rr.out _ (HS.out.2.1.below b4) (sW m (HS.out.2.2.2.below b4)) mL
 refine ST.mono ?_
 clear ST;rintro e w5 ⟨v,rfl,hO,zE⟩
 obtain⟨A,c,rfl,hc,wv⟩:=hO.form;clear wv;have cM:=Hh hc;rw[JH.out];rw[WK.out]at hO hc⊢;rw[qR.out]at hc⊢;rw[qR.out]at hO;have WP:=fun q hq=>(hO.lt q hq).1
 try simp only[zB,za]at WP
 replace WP:=Hh WP;replace hO:=hO.more b4.size
 try replace hX:=hX.below zE
 replace mL:=mL.below zE;replace b4:=b4.trans (zE.mono b4.size);clear h4
 refine Ko hK ?_ fun zy=>?_
 ·trivial
 clear hK K
 refine TkS 7 rfl zy ?_
 refine TkS 8 rfl zy ?_
 refine TkS 9 rfl zy ?_
 exact jdK):P:=h
theorem jau{P:Prop}(h:P:=by
 go_wp2_with fail
 refine V.out.mono ?_
 rintro e w1 ⟨rfl,rfl⟩
 exact jeU):P:=h
theorem jbH{P:Prop}(h:P:=by
 generalize f.log2=t at a1 a2 a3
 have b:=pw a1 a2 (by omega);obtain⟨full,ti⟩:∃ full,f*2 ^ (52-t)=full:=⟨_,rfl⟩
 rw[ti]at b⊢
 exact⟨⟨xZ,YR,by omega,rl,.inr (.inr (.inr ⟨h2,t,full,a3,a1,a2,ti.symm,b.1,rfl⟩))⟩,by omega⟩):P:=h
theorem jbN{P:Prop}(h:P:=by
 simp only[yg,Bool.and_eq_true,decide_eq_true_eq]at hv
 exact⟨hv.1.1.1.1.1,hv.1.1.1.1.2,hv.1.1.1.2,hv.1.1.2⟩):P:=h
theorem jcl{P:Prop}(h:P:=by
 rintro r rfl h
 exact⟨_,rfl,by rw[h];exact OwnB.nil _ _,Below.refl _ _⟩):P:=h
theorem jcB{P:Prop}(h:P:=by
 simp at h
 repeat' split at h
 all_goals omega):P:=h
theorem jcC{P:Prop}(h:P:=by
 have h0:f=0:=by omega
 subst h0;rw[if_pos h1]
 exact⟨⟨xZ,YR,by omega,rl,.inl ⟨h1,rfl,by omega⟩⟩,by omega⟩):P:=h
theorem jcI{P:Prop}(h:P:=by exact tL (s:=s) (e:=0) (m:=0) (by rw[h3,Nat.zero_mul,Nat.add_zero]) a1 (by omega) (by omega) (fun _=>rfl)):P:=h
theorem jcK{P:Prop}(h:P:=by
 rw[if_neg h2]
 exact⟨⟨xZ,YR,by omega,rl,.inr (.inr (.inl ⟨by omega,by omega,rfl⟩))⟩,by omega⟩):P:=h
theorem jc8{P:Prop}(h:P:=by
 rw[if_pos h0]
 exact⟨⟨xZ,YR,by omega,rl,.inr (.inl ⟨h2,h0,rfl⟩)⟩,by omega⟩):P:=h
theorem jc9{P:Prop}(h:P:=by exact tL (s:=s) (e:=2047) (m:=0) (by rw[h3]) a1 (by omega) (by omega) (fun _=>rfl)):P:=h
theorem jdt{P:Prop}(h:P:=by
 cases h:ye f 5 10 with
 | none=>rfl
 | some v=>rw[h]at h2;simp at h2):P:=h
theorem jdK{P:Prop}(h:P:=by
 refine TkS 11 rfl zy ?_
 refine To 12 rfl fun K hK=>?_
 rw[if_pos (by rfl)]
 refine zT _ _ _ rfl _ (zn z) rfl rfl _ _ hX (by rw[zg,Sh.out];kernel_rfl) (by rw[zg,Sh.out];rfl) (ym _) fun w7 jn xQ=>?_
 have xj:=hO.kept xQ (by cases hv:Value.ownBlock (.slice A m c) with | none=>exact .inl rfl | some q=>exact .inr (fun e=>by injection e with e;first | (have:=IZ.out q hv;omega) | (have:=WP.out q hv;omega)));have IK:=mL.grown xQ (by intro e;injection e with e;have:=WO.out;omega);have b7:=b4.grown xQ b4.size (by rintro q ⟨⟩;exact jD.out)
 refine Ko hK ?_ fun zy=>?_
 ·trivial
 clear hK K
 refine Wd ?_
 clear zy hO hX mL b4 xQ;clear OI hc;go_wp2_with fail
 go_meet
 exact⟨_,_,_,rfl,rfl,(by have:=cM.out;rw[WK.out,qR.out]at this;exact this),jn,xj,b7,IK⟩):P:=h
theorem jdX{P:Prop}(h:P:=by
 have E:Hid (yg kn nn t=false):=by rw[Hid,yg];simp;omega
 clear hr VF;go_enter Tryz.func89,Tryz.ntmps89
 exact jax):P:=h
theorem jeg{P:Prop}(h:P:=by
 go_enter Tryz.func89,Tryz.ntmps89
 exact jax):P:=h
theorem jeA{P:Prop}(h:P:=by
 go_enter Tryz.func53,Tryz.ntmps53
 exact jau):P:=h
theorem jeL{P:Prop}(h:P:=by
 go_enter Tryz.func47,Tryz.ntmps47
 exact jau):P:=h
theorem jeU{P:Prop}(h:P:=by
 go_wp2_with fail
 go_ret2
 exact N1.out):P:=h
theorem jhj{P:Prop}(h:P:=by have HS:=Hh (And.intro hsk (And.intro qT (And.intro mz hsp)));exact HS):P:=h
theorem jhB{P:Prop}(h:P:=by have N1:=NO (8,[]) (by rw[tQ,← sw,← uE,if_neg (by rw[hv];decide),if_pos (by omega)]) rfl;exact N1):P:=h
theorem jhG{P:Prop}(h:P:=by have V:=Hh (dG (KA:=KA) (kn:=kn) (kc:=kc) (NA:=NA) (nn:=nn) (nc:=nc) t (by omega) w);have HK:=Hh (And.intro sw oT);have HN:=Hh uE;have HA:=Hh (And.intro me hac);exact And.intro V (And.intro HK (And.intro HN HA))):P:=h
def yg (kn nn t:Nat):Bool:=decide (kn=16)&&decide (7≤nn)&&decide (nn≤13)&&decide (4≤t)&&decide (t≤16)&&decide (t%2=0)
def tQ (key nonce aad plain:List UInt8) (t:Nat):Int×List UInt8 :=
 if yg key.length nonce.length t=false then(1,[]) else if 4096<aad.length∨4096<plain.length then(8,[]) else(0,tj key nonce aad plain t)
theorem dG {KA NA:Option Addr}{kn kc nn nc:Nat}(t:Nat) (ht:t≤1000000) (w:World) :
  Calls Tryz.prog 89 #[.slice KA kn kc,.slice NA nn nc,.int .i64 (t:Int)] w fun e w'=>e=.returned (.bool (yg kn nn t))∧w=w':=by
 obtain⟨r,hr⟩:∃ r,t%2=r:=⟨_,rfl⟩
 have t1:(t:Int).tmod 2=(r:Int):=by rw[← hr];exact(Int.ofNat_tmod t 2).symm
 have t1':(t:Int)%2=(r:Int):=by rw[← hr];omega
 have HR:=Hh hr
 by_cases h1:(kn:Int)=16
 ·have VF:kn=16:=by omega
  by_cases h2:(7:Int)≤(nn:Int)
  ·by_cases h3:(nn:Int)≤13
   ·by_cases h4:(4:Int)≤(t:Int)
    ·by_cases h5:(t:Int)≤16
     ·by_cases h6:(r:Int)=0
      ·have E:Hid (yg kn nn t=true):=by rw[Hid,yg,hr];simp;omega
       clear hr VF;exact jeg
      have E:Hid (yg kn nn t=false):=by rw[Hid,yg,hr];simp;omega
      have e6:((r:Int)==0)=false:=by rw[beq_eq_false_iff_ne];exact h6
      clear hr VF;exact jeg
     exact jdX
    exact jdX
   exact jdX
  exact jdX
 have E:Hid (yg kn nn t=false):=by rw[Hid,yg];simp;omega
 have e1:((kn:Int)==16)=false:=by rw[beq_eq_false_iff_ne];exact h1
 clear hr;exact jeg
def ww (w:World) (r:Int×List UInt8) (e:Ending) (w':World):Prop:=∃ v,e=.returned (.tuple #[v,.int .i64 r.1])∧OwnB w' w.heap.size v r.2∧Below w.heap.size w w'
theorem Pe {KA:Option Addr}{kn kc:Nat}{key:List UInt8}(sw:kn=key.length) (oT:kn≤kc) {NA:Option Addr}{nn nc:Nat}{nonce:List UInt8}(uE:nn=nonce.length)
  {AA:Option Addr} {an ac:Nat} {aad:List UInt8} (me:an=aad.length) (hac:an≤ac) {PA:Option Addr} {pn pc:Nat} {plain:List UInt8} (hpn:pn=plain.length) (Wb:pn≤pc)
  (t:Nat) (ht:t≤16) (w:World) (hsk:Src w KA (key.map zu)) (qT:Src w NA (nonce.map zu)) (mz:Src w AA (aad.map zu)) (hsp:Src w PA (plain.map zu)) :
  Calls Tryz.prog 47 #[.slice KA kn kc,.slice NA nn nc,.slice AA an ac,.slice PA pn pc,.int .i64 (t:Int)] w (ww w (tQ key nonce aad plain t)):=by
 obtain⟨V,HK,HN,HA⟩:=jhG;have HP:=Hh (And.intro hpn Wb);have HT:=Hh ht;have HS:=jhj
 have NO:∀ r:Int×List UInt8,tQ key nonce aad plain t=r→r.2=[]→Hid (ww w (tQ key nonce aad plain t) (.returned (.tuple #[.slice none 0 0,.int .i64 r.1])) w):=by
  exact jcl
 cases hv:yg kn nn t with
 | false =>
  have N1:=NO (1,[]) (by rw[tQ,← sw,← uE,if_pos hv]) rfl;rw[hv]at V;clear NO sw oT uE me hac hpn Wb ht hsk qT mz hsp hv;exact jeL
 | true =>
 have HV:Hid (kn=16∧7≤nn∧nn≤13∧4≤t):=by
  exact jbN
 rw[hv]at V
 by_cases hbig:(4096:Int)<(an:Int)∨(4096:Int)<(pn:Int)
 ·have N1:=jhB;clear NO sw oT uE me hac hpn Wb ht hsk qT mz hsp hv
  by_cases h1:(4096:Int)<(an:Int)
  ·clear hbig;exact jeL
  have h2:(4096:Int)<(pn:Int):=by omega
  clear hbig;exact jeL
 have E:Hid (tQ key nonce aad plain t=(0,tj key nonce aad plain t)):=by rw[Hid,tQ,← sw,← uE,if_neg (by rw[hv];decide),if_neg (by omega)]
 have h1:¬ (4096:Int)<(an:Int):=by omega
 have h2:¬ (4096:Int)<(pn:Int):=by omega
 have HB:Hid (an≤4096∧pn≤4096):=by rw[Hid];omega
 clear NO hbig sw oT uE me hac hpn Wb ht hsk qT mz hsp hv;obtain rfl:kn=16:=HV.out.1;have NW:=Hh (VX (c:=kc) HK.out.1.symm w HS.out.1);go_enter Tryz.func47,Tryz.ntmps47
 go_wp2_with fail
 refine V.out.mono ?_
 rintro e w1 ⟨rfl,rfl⟩
 go_wp2_with fail
 refine NW.out.mono ?_
 rintro e w2 ⟨N,rfl,hN,hC,b2⟩
 have BS:=dF HK.out.1.symm N;have AU:=Hh (ph BS (nc:=nc) HN.out (by have:=HV.out;have:=HN.out;omega) (AA:=AA) (ac:=ac) HA.out.1 HA.out.2 (by have:=HB.out;have:=HA.out;omega) (PA:=PA) (pc:=pc) HP.out.1 HP.out.2 (by have:=HB.out;have:=HP.out;omega) t (by have:=HV.out;have:=HT.out;omega) w2 (HS.out.2.1.below b2) (HS.out.2.2.1.below b2) (HS.out.2.2.2.below b2) hC);have tl:=lA key nonce aad plain t;obtain⟨tg,Mu⟩:∃ x,oH key nonce aad plain t=x:=⟨_,rfl⟩
 have JF:=Hh Mu;rw[Mu]at AU tl;clear Mu NW V;go_wp2_with fail
 refine AU.out.mono ?_
 rintro e w3 ⟨rfl,yR⟩
 have Mj:=hC.below yR;have b3:=b2.trans (yR.mono b2.size);have ST:=Hh (oq BS (nc:=nc) HN.out (by have:=HV.out;have:=HN.out;omega) (TA:=PA) (tc:=pc) HP.out.1 (by have:=HB.out;have:=HP.out;omega) tl w3 (HS.out.2.1.below b3) (HS.out.2.2.2.below b3) Mj);clear hC b2 yR AU tl;go_wp2_with fail
 refine ST.out.mono ?_
 rintro e w4 ⟨v,rfl,uj,xE⟩
 have b4:=b3.trans (xE.mono b3.size);replace uj:=uj.more b3.size;obtain⟨A,c,rfl,hc,_⟩:=uj.form;rw[vA]at uj hc⊢;rw[← HP.out.1]at uj hc⊢;have ml:(uD key nonce tg).length=16:=yX _ _;obtain⟨z,hz⟩:∃ z,uD key nonce tg=z:=⟨_,rfl⟩
 have HZ:=Hh hz;rw[hz]at ml⊢;obtain⟨M,hM⟩:∃ M,w4.heap.size=M:=⟨_,rfl⟩
 have n9:=Blk.new w4 122 (zn (List.replicate 16 0));rw[hM]at n9
 have HM:Hid (w.heap.size≤M∧∀ g,Value.ownBlock (.slice A pn c)=some g→g<M):=by
  refine⟨by have:=b4.size;omega,fun g hg=>?_⟩
  have:=(uj.lt g hg).2
  omega
 have Rt:=Hh hM;have zW:=uj.alloc (.cells (zn (List.replicate 16 0)) 122);have b5:=b4.alloc b4.size (.cells (zn (List.replicate 16 0)) 122);clear Mj b3 xE ST uj b4 hz hM;go_wp2_with (with_reducible refine zx ?_)
 unfold zZ
 rw[Rt.out]
 refine zm rfl _ _ _ rfl rfl M (zn z) rfl rfl _ _ n9 (by rw[zg,ml];kernel_rfl) (by rw[zg,ml];rfl) (ym _) fun w6 h6 vt=>?_
 have wH:=zW.kept vt (by
  cases hv:Value.ownBlock (.slice A pn c) with
  | none=>exact .inl rfl
  | some q=>exact .inr (fun e=>by injection e with e;have:=HM.out.2 q hv;omega))
 have b6:=b5.grown vt b5.size (by rintro q ⟨⟩;exact HM.out.1)
 have cq:Src w6 (some ⟨M,0,none⟩) ((z.take t).map zu):=fun _=>⟨M,0,rfl,fun j v hj=>h6.cell _ (by
  rw[Nat.zero_add];rw[List.getElem?_map,List.getElem?_take]at hj
  split at hj
  ·simpa [zn] using hj
  cases hj)⟩
 have zAe:(t:Int)≤16:=by have:=HT.out;omega
 have fC:Hid ((z.take t).length=t):=by rw[Hid,List.length_take,ml];have:=HT.out;omega
 clear n9 zW b5 vt h6;go_wp2_with (at_builtin;refine zh ?_)
 refine zv rfl (.tmp 45) (.tmp 47) rfl w.heap.size _ (qC key nonce plain) rfl (by rw[OwnB,vA,← HP.out.1];rw[OwnB,vA,← HP.out.1]at wH;exact wH) (some ⟨M,0,none⟩) t 16 (z.take t) rfl fC.out.symm cq (by rw[vA,fC.out];have:=HB.out;have:=HP.out;have:=HT.out;omega) b6.size fun v' w8 sk hg8 hat8=>?_
 have b8:=zp b6 hg8 (fun q hq=>(wH.lt q hq).1);clear wH b6 cq hg8 hat8;go_wp2_with fail
 go_ret2
 exact⟨v',by rw[E.out];rfl,by rw[E.out,tj,JF.out,HZ.out];exact sk,b8⟩
def wG (key nonce aad cipher:List UInt8) (t:Nat):Int×List UInt8 :=
 if yg key.length nonce.length t=false then(1,[]) else if 4096<aad.length∨4096+t<cipher.length then(8,[]) else if cipher.length<t then(2,[])
 else if qM key nonce aad cipher t=false then(11,[]) else(0,tO key nonce cipher t)
theorem Nn (news e:List UInt8) (h:news.length≤16):xA (spl (List.replicate 16 0) 0 news) e=xA news e:=by
 apply List.map_congr_left
 intro i hi
 have Rv:i<16:=by simpa using hi
 have:at_ (spl (List.replicate 16 0) 0 news) i=at_ news i:=by
  simp only[at_,spl,List.take_zero,List.nil_append,List.getD_eq_getElem?_getD,Nat.zero_add]
  by_cases hn:i<news.length
  ·rw[List.getElem?_append_left hn]
  rw[List.getElem?_append_right (by omega),List.getElem?_drop,List.getElem?_replicate,if_pos (by omega),List.getElem?_eq_none (by omega)];rfl
 rw[this]
theorem UR {w:World}{A:Option Addr}{l:List UInt8}(m:Nat) (h:Src w A (l.map zu)):Src w (A.map fun x=>x.add m) ((l.drop m).map zu):=fun xp=>by
 obtain⟨b,off,rfl,hc⟩:=h (by intro e;apply xp;rw[List.map_eq_nil_iff]at e;rw[e];simp)
 refine⟨b,off+m, ?_,fun j v hj=>?_⟩
 ·rw[Option.map_some,Addr.add_mid]
 rw[List.map_drop,List.getElem?_drop]at hj;have:=hc _ _ hj;rwa [← Nat.add_assoc]at this
theorem sW {w:World}{A:Option Addr}{l:List UInt8}(m:Nat) (h:Src w A (l.map zu)):Src w A ((l.take m).map zu):=fun xp=>by
 obtain⟨b,off,rfl,hc⟩:=h (by intro e;apply xp;rw[List.map_eq_nil_iff]at e;rw[e];simp)
 refine⟨b,off,rfl,fun j v hj=>?_⟩
 rw[List.map_take,List.getElem?_take]at hj
 split at hj
 ·exact hc _ _ hj
 cases hj
theorem Blk.srcB {w:World}{g:Nat}{t:TypeId}{l:List UInt8}(h:Blk w g t (zn l)):Src w (some ⟨g,0,none⟩) (l.map zu):=fun _=>⟨g,0,rfl,fun j v hj=>h.cell _ (by rw[Nat.zero_add];simpa [zn] using hj)⟩
theorem Blk.newAt {w:World}{g:Nat}{t:TypeId}{cs:Array Value}(_:Blk w g t cs) (t':TypeId) (cs':Array Value):Blk (w.alloc (.cells cs' t')) w.heap.size t' cs':=Blk.new w t' cs'
theorem bS {w:World}{o:Oper}{a:Act}{K:Act→World→Prop}{Q:Exit→Act→World→Prop}(d s:Operand)
  (ho:o.op=.call { callee:=.builtin .copy,args:=#[d,s],argTypes:=#[22,22] })
  (g off n c:Nat) (hd:a.eval d=.slice (some ⟨g,off,none⟩) n c) (A:Option Addr) (m c':Nat) (news:List UInt8) (hs:a.eval s=.slice A m c') (hm:m=news.length)
  (hr:Src w A (news.map zu)) (mN:news.length≤n) {t:TypeId} {l:List UInt8} (hB:Blk w g t (zn l)) (hfit:off+news.length≤l.length) (h0:news.length≠0)
  (h:∀ w',Blk w' g t (zn (spl l off news))→w.grownBy w' (some g)→K (a.put o.dst (goInt news.length)) w'):o.wp Tryz.prog a w K Q:=by
 subst hm;obtain⟨b,o2,rfl,hc⟩:=hr (by intro e;rw[List.map_eq_nil_iff]at e;rw[e]at h0;exact h0 rfl);have hl:(news.map zu).length=news.length:=by simp
 have Rn:=run_copy_row (P:=Tryz.prog) w 22 22 o.type 5 g off n c ⟨b,o2,none⟩ news.length c' (zn l) t (news.map zu) Tryz.underlying22 yH hB (by rw[hl];exact(Nat.min_eq_left mN).symm) (fun j v hj=>by rw[Addr.add_mid];exact hc j v hj) (by rw[zg,hl];exact hfit) (by simp[Value.oneCell'])
 unfold Oper.wp
 simp[execOp,ho,resolve,invoke,builtin,hd,hs,Rn,Result.andThen]
 refine h _ ?_ ⟨rfl,rfl,rfl,by simp[World.setRow],fun k hk xp=>setRow_other w g k _ (fun e=>xp (by rw[e]))⟩
 have e:(zn (spl l off news))=(List.take off (zn l).toList++(List.map zu news++List.drop (off+news.length) (zn l).toList)).toArray:=by
  exact jcN
 simp only[List.length_map,zn,spl,List.toList_toArray,List.map_append,List.map_take,List.map_drop,List.append_assoc]at *
 exact setRow_heap w g _ _ t _ hB
theorem Pd {KA:Option Addr}{kn kc:Nat}{key:List UInt8}(sw:kn=key.length) (oT:kn≤kc) {NA:Option Addr}{nn nc:Nat}{nonce:List UInt8}(uE:nn=nonce.length)
  {AA:Option Addr} {an ac:Nat} {aad:List UInt8} (me:an=aad.length) (hac:an≤ac) {PA:Option Addr} {pn pc:Nat} {cipher:List UInt8} (hpn:pn=cipher.length) (Wb:pn≤pc) (lV:pc≤9223372036854775807)
  (t:Nat) (ht:t≤16) (w:World) (hsk:Src w KA (key.map zu)) (qT:Src w NA (nonce.map zu)) (mz:Src w AA (aad.map zu)) (hsp:Src w PA (cipher.map zu)) :
  Calls Tryz.prog 53 #[.slice KA kn kc,.slice NA nn nc,.slice AA an ac,.slice PA pn pc,.int .i64 (t:Int)] w (ww w (wG key nonce aad cipher t)):=by
 obtain⟨V,HK,HN,HA⟩:=jhG;have HP:=Hh (And.intro hpn (And.intro Wb lV));have HT:=Hh ht;have HS:=jhj
 have NO:∀ r:Int×List UInt8,wG key nonce aad cipher t=r→r.2=[]→Hid (ww w (wG key nonce aad cipher t) (.returned (.tuple #[.slice none 0 0,.int .i64 r.1])) w):=by
  exact jcl
 have Eg:(0:Int)≤(t:Int)∧(t:Int)≤16:=by omega
 have hw:IntKind.i64.wrap (4096+(t:Int))=4096+(t:Int):=IntWalk.i64_in _ (by omega)
 cases hv:yg kn nn t with
 | false =>
  have N1:=NO (1,[]) (by rw[wG,← sw,← uE,if_pos hv]) rfl;rw[hv]at V;clear NO sw oT uE me hac hpn Wb lV ht hsk qT mz hsp hv;exact jeA
 | true =>
 have HV:Hid (kn=16∧7≤nn∧nn≤13∧4≤t):=by
  exact jbN
 rw[hv]at V
 by_cases hbig:(4096:Int)<(an:Int)∨4096+(t:Int)<(pn:Int)
 ·have N1:=NO (8,[]) (by rw[wG,← sw,← uE,if_neg (by rw[hv];decide),if_pos (by omega)]) rfl;clear NO sw oT uE me hac hpn Wb lV ht hsk qT mz hsp hv
  by_cases h1:(4096:Int)<(an:Int)
  ·clear hbig;exact jeA
  have h2:4096+(t:Int)<(pn:Int):=by omega
  clear hbig;exact jeA
 have h1:¬ (4096:Int)<(an:Int):=by omega
 have h2:¬ 4096+(t:Int)<(pn:Int):=by omega
 by_cases YQ:(pn:Int)<(t:Int)
 ·have N1:=NO (2,[]) (by rw[wG,← sw,← uE,if_neg (by rw[hv];decide),if_neg (by omega),if_pos (by omega)]) rfl;clear NO hbig sw oT uE me hac hpn Wb lV ht hsk qT mz hsp hv;exact jeA
 have N11:qM key nonce aad cipher t=false→Hid (wG key nonce aad cipher t=(11,[])):=fun h=>by
  rw[Hid,wG,← sw,← uE,if_neg (by rw[hv];decide),if_neg (by omega),if_neg (by omega),if_pos h]
 have N0:qM key nonce aad cipher t=true→Hid (wG key nonce aad cipher t=(0,tO key nonce cipher t)):=fun h=>by
  rw[Hid,wG,← sw,← uE,if_neg (by rw[hv];decide),if_neg (by omega),if_neg (by omega),if_neg (by rw[h];decide)]
 obtain⟨m,hm⟩:∃ m:Nat,m+t=pn:=⟨pn-t,by omega⟩
 have hwm:IntKind.i64.wrap ((pn:Int)-(t:Int))=(m:Int):=by rw[IntWalk.i64_in _ (by omega)];omega
 have iM:(0:Int)≤(m:Int)∧(m:Int)≤(pn:Int)∧(pn:Int)≤(pc:Int):=by omega
 have HB:Hid (an≤4096∧pn≤4096+t∧m+t=pn):=by rw[Hid];omega
 have cN:=Hh (And.intro N11 N0);clear NO hbig sw oT uE me hac hpn Wb lV ht hsk qT mz hsp hv N11 N0 hm;obtain rfl:kn=16:=HV.out.1;have NW:=Hh (VX (c:=kc) HK.out.1.symm w HS.out.1);go_enter Tryz.func53,Tryz.ntmps53
 go_wp2_with fail
 refine V.out.mono ?_
 rintro e w1 ⟨rfl,rfl⟩
 go_wp2_with fail
 refine NW.out.mono ?_
 rintro e w2 ⟨N,rfl,hN,hC,b2⟩
 have BS:=dF HK.out.1.symm N;have hz:=Blk.new w2 122 (zn (List.replicate 16 0));have Mj:=hC.alloc (.cells (zn (List.replicate 16 0)) 122);have b3:=b2.alloc b2.size (.cells (zn (List.replicate 16 0)) 122)
 have DR:Hid (pn-m=(cipher.drop m).length∧(cipher.drop m).length=t∧pc≠m):=by
  have h1:=HP.out;have h2:=HB.out;have h3:=HV.out;rw[Hid,List.length_drop]
  omega
 obtain⟨M,hM⟩:∃ M,w2.heap.size=M:=⟨_,rfl⟩
 have HM:=Hh hM;have Ae:Hid (N<M∧w.heap.size≤M):=by have:=hC.lt;have:=b2.size;rw[Hid];omega
 rw[hM]at hz;clear hM hC b2 hN;go_upto_region 10 with fail
 try rw[HM.out]
 replace hz:=hz.drew
 refine zr 5 (fun _=>True) (by kernel_rfl) (trivial) (fun zy=>?_)
 refine TkS 0 rfl zy ?_
 refine TkS 1 rfl zy ?_
 refine TkS 2 rfl zy ?_
 refine TkS 3 rfl zy ?_
 refine To 4 rfl fun K hK=>?_
 rw[if_pos (by rfl)]
 refine bS (.tmp 46) (.tmp 49) rfl M 0 16 16 rfl _ _ _ (cipher.drop m) rfl DR.out.1 (by rw[if_neg DR.out.2.2];exact UR m (HS.out.2.2.2.below b3.drew)) (by rw[DR.out.2.1];exact HT.out) hz (by rw[DR.out.2.1,List.length_replicate];have:=HT.out;omega) (by rw[DR.out.2.1];have:=HV.out;omega) fun w4 h4 hg4=>?_
 have mL:=Mj.drew.grown hg4 (by intro e;injection e with e;have:=Ae.out;omega);have b4:=b3.drew.grown hg4 b3.size (by rintro q ⟨⟩;have:=Ae.out;omega)
 refine Ko hK ?_ fun zy=>?_
 ·trivial
 clear hK K
 refine Wd ?_
 clear zy hz Mj b3 hg4;rw[show spl (List.replicate 16 0) 0 (cipher.drop m)=spl (List.replicate 16 0) 0 (cipher.drop m) from rfl]at h4;obtain⟨G,hG⟩:∃ G,spl (List.replicate 16 (0:UInt8)) 0 (cipher.drop m)=G:=⟨_,rfl⟩
 rw[hG]at h4;have Lr:G.length=16:=by rw[← hG,Nm (by rw[DR.out.2.1,List.length_replicate];have:=HT.out;omega),List.length_replicate]
 have HZ:Hid (uD key nonce G=uD key nonce (cipher.drop m)):=by rw[Hid,uD,uD,← hG,Nn _ _ (by rw[DR.out.2.1];exact HT.out)]
 have Rr:=Hh Lr;obtain⟨z,hz⟩:∃ z,uD key nonce G=z:=⟨_,rfl⟩
 have zl:z.length=16:=by rw[← hz];exact yX _ _
 have Sh:=Hh zl;have JH:=Hh hz;have TK:Hid (m=(cipher.take m).length):=by rw[Hid,List.length_take];have:=HP.out;have:=HB.out;omega
 obtain⟨bd,ig⟩:∃ b,qC key nonce (cipher.take m)=b:=⟨_,rfl⟩
 have WK:=Hh ig;have qR:Hid (bd.length=m):=by rw[Hid,← ig,vA];exact TK.out.symm
 clear hG Lr hz zl ig V NW;have lV:(pc=m)=False:=eq_false DR.out.2.2;have OI:m≤pc:=by have:=HP.out;have:=HB.out;omega
 go_upto_region 11 with fail
 go_cut [15,16] (fun s15 s16 wx=>∃ A c X,s15=.slice A m c∧s16=.pointer (some ⟨X,0,none⟩)∧m≤c∧Blk wx X 122 (zn z)∧OwnB wx w.heap.size (.slice A m c) bd∧Below w.heap.size w wx∧Blk wx N 158 (zn (gy key)))
 case first =>
  replace mL:=mL.drew;replace h4:=h4.drew;replace b4:=b4.drew
  refine zr 13 (fun _=>True) (by kernel_rfl) (trivial) (fun zy=>?_)
  refine TkS 0 rfl zy ?_
  refine TkS 1 rfl zy ?_
  refine TkS 2 rfl zy ?_
  refine TkS 3 rfl zy ?_
  refine TkS 4 rfl zy ?_
  refine Ways.two (i:=5) (j:=10) rfl rfl (by kernel_rfl) (fun K hK=>?_) (fun K hK=>?_)
  ·rw[if_pos (by rfl)]
   refine wp_load_mid _ _ rfl M 0 rfl (G.map zu) _ (by have:=qv h4 0 16;rw[xT Rr.out]at this;exact this) Tryz.underlying122 rfl (by rw[List.length_map,Rr.out];kernel_rfl) ?_
   refine Ko hK ?_ fun zy=>?_
   ·trivial
   clear hK K
   refine Ways.two (i:=6) (j:=10) rfl rfl (by kernel_rfl) (fun K hK=>?_) (fun K hK=>?_)
   ·go_simp
    have ST:=oq BS (nc:=nc) HN.out (by have:=HV.out;have:=HN.out;omega) (TA:=PA) (tn:=m) (tc:=pc) (text:=cipher.take m) TK.out (by have:=HB.out;have:=TK.out;have:=HT.out;omega) (tag:=G) Rr.out _ (HS.out.2.1.below b4) (sW m (HS.out.2.2.2.below b4)) mL
    refine ST.mono ?_
    clear ST;rintro e w5 ⟨v,rfl,hO,zE⟩
    obtain⟨A,c,rfl,hc,wv⟩:=hO.form;clear wv;have cM:=Hh hc;rw[JH.out];rw[WK.out]at hO hc⊢;rw[qR.out]at hc⊢;rw[qR.out]at hO;have WP:=fun q hq=>(hO.lt q hq).1
    try simp only[zB,za]at WP
    replace WP:=Hh WP;replace hO:=hO.more b4.size
    try replace hX:=hX.below zE
    replace mL:=mL.below zE;replace b4:=b4.trans (zE.mono b4.size);clear h4
    refine Ko hK ?_ fun zy=>?_
    ·trivial
    clear hK K
    refine TkS 7 rfl zy ?_
    refine TkS 8 rfl zy ?_
    refine TkS 9 rfl zy ?_
    refine To 10 rfl fun K hK=>?_
    go_simp
    have hX:=mL.newAt 122 (zn (List.replicate 16 0));have jD:=b4.size;have WO:=mL.lt
    try simp only[zB,za]at WO
    replace WO:=Hh WO
    try have IZ:=Hh (hO.lt)
    try simp only[zB,za]at hX
    try simp only[zB,za]at jD
    replace jD:=Hh jD
    try replace hO:=hO.alloc (.cells (zn (List.replicate 16 0)) 122)
    replace b4:=b4.alloc b4.size (.cells (zn (List.replicate 16 0)) 122);replace mL:=mL.alloc (.cells (zn (List.replicate 16 0)) 122)
    try replace h4:=h4.alloc (.cells (zn (List.replicate 16 0)) 122)
    refine Ko hK ?_ fun zy=>?_
    ·trivial
    clear hK K
    exact jdK
   go_simp
   have hX:=mL.newAt 122 (zn (List.replicate 16 0));have jD:=b4.size;have WO:=mL.lt
   try simp only[zB,za]at WO
   replace WO:=Hh WO
   try have IZ:=Hh (hO.lt)
   try simp only[zB,za]at hX
   try simp only[zB,za]at jD
   replace jD:=Hh jD
   try replace hO:=hO.alloc (.cells (zn (List.replicate 16 0)) 122)
   replace b4:=b4.alloc b4.size (.cells (zn (List.replicate 16 0)) 122);replace mL:=mL.alloc (.cells (zn (List.replicate 16 0)) 122)
   try replace h4:=h4.alloc (.cells (zn (List.replicate 16 0)) 122)
   exact jam
  go_simp
  have hX:=mL.newAt 122 (zn (List.replicate 16 0));have jD:=b4.size;have WO:=mL.lt
  try simp only[zB,za]at WO
  replace WO:=Hh WO
  try have IZ:=Hh (hO.lt)
  try simp only[zB,za]at hX
  try simp only[zB,za]at jD
  replace jD:=Hh jD
  try replace hO:=hO.alloc (.cells (zn (List.replicate 16 0)) 122)
  replace b4:=b4.alloc b4.size (.cells (zn (List.replicate 16 0)) 122);replace mL:=mL.alloc (.cells (zn (List.replicate 16 0)) 122)
  try replace h4:=h4.alloc (.cells (zn (List.replicate 16 0)) 122)
  refine Ko hK ?_ fun zy=>?_
  ·trivial
  clear hK K
  refine To 5 rfl fun K hK=>?_
  rw[if_pos (by rfl)]
  refine wp_load_mid _ _ rfl M 0 rfl (G.map zu) _ (by have:=qv h4 0 16;rw[xT Rr.out]at this;exact this) Tryz.underlying122 rfl (by rw[List.length_map,Rr.out];kernel_rfl) ?_
  exact jam
 case rest =>
 obtain⟨A,c,X,rfl,rfl,hc,hX,hO,hb,hC⟩:=hcut;have tl:=lA key nonce aad bd t;obtain⟨tg,Mu⟩:∃ x,oH key nonce aad bd t=x:=⟨_,rfl⟩
 rw[Mu]at tl;have JF:=Hh Mu;have fC:=Hh tl;have AU:=Hh (ph BS (nc:=nc) HN.out (by have:=HV.out;have:=HN.out;omega) (AA:=AA) (ac:=ac) HA.out.1 HA.out.2 (by have:=HB.out;have:=HA.out;omega) (PA:=A) (pn:=m) (pc:=c) qR.out.symm hc (by have:=HB.out;have:=qR.out;have:=HT.out;omega) t (by have:=HV.out;have:=HT.out;omega) wc (HS.out.2.1.below hb) (HS.out.2.2.1.below hb) hO.src hC);rw[Mu]at AU;clear Mu tl;go_wp2_with fail
 refine AU.out.mono ?_
 rintro e w8 ⟨rfl,uk⟩
 replace hO:=OwnB.below hO uk;replace hX:=hX.below uk;replace hb:=hb.trans (uk.mono hb.size);clear AU uk hC lV OI;obtain⟨Y,hY⟩:∃ Y,w8.heap.size=Y:=⟨_,rfl⟩
 have HYN:=Hh hY;have Oy:=Blk.new w8 122 (zn (List.replicate 16 0));rw[hY]at Oy
 have DP:Hid (X<Y∧(∀ q,Value.ownBlock (.slice A m c)=some q→q<Y)∧w.heap.size≤Y):=by
  refine⟨by have:=hX.lt;omega,fun q hq=>by have:=(OwnB.lt hO q hq).2;omega,by have:=hb.size;omega⟩
 have sm:=hX.alloc (.cells (zn (List.replicate 16 0)) 122);have sv:=OwnB.alloc hO (.cells (zn (List.replicate 16 0)) 122);have b9:=hb.alloc hb.size (.cells (zn (List.replicate 16 0)) 122);clear hX hO hb hY;go_wp2_with (with_reducible refine zx ?_)
 unfold zZ
 rw[HYN.out]
 refine zm rfl _ _ _ rfl rfl Y (zn tg) rfl rfl _ _ Oy (by rw[zg,fC.out];kernel_rfl) (by rw[zg,fC.out];rfl) (ym _) fun w10 OC yn=>?_
 have oC:=sm.grown yn (by intro e;injection e with e;have:=DP.out.1;omega);have wO:=OwnB.kept sv yn (by cases hv:Value.ownBlock (.slice A m c) with | none=>exact .inl rfl | some q=>exact .inr (fun e=>by injection e with e;have:=DP.out.2.1 q hv;omega));have b10:=b9.grown yn b9.size (by rintro q ⟨⟩;exact DP.out.2.2);clear sm sv b9 Oy yn;have FF:Hid ((z.take t).length=t):=by rw[Hid,List.length_take,Sh.out];have:=HT.out;omega
 have FD:Hid ((tg.take t).length=t):=by rw[Hid,List.length_take,fC.out];have:=HT.out;omega
 obtain⟨r,hr⟩:∃ r,(z.take t==tg.take t)=r:=⟨_,rfl⟩
 have HR:Hid (qM key nonce aad cipher t=r):=by
  have hl:cipher.length-t=m:=by have:=HP.out;have:=HB.out;omega
  rw[Hid,qM,tO,hl,WK.out,JF.out,← HZ.out,JH.out,hr]
 have Cm:Hid (tO key nonce cipher t=bd):=by
  have hl:cipher.length-t=m:=by have:=HP.out;have:=HB.out;omega
  rw[Hid,tO,hl,WK.out]
 have HRR:=Hh hr;clear hr;go_upto_region 13 with fail
 replace oC:=oC.drew;replace OC:=OC.drew;replace b10:=b10.drew;replace wO:=OwnB.below wO (Below.refl _ _).drew
 refine zr 6 (fun _=>True) (by kernel_rfl) (trivial) (fun zy=>?_)
 refine TkS 0 rfl zy ?_
 refine TkS 1 rfl zy ?_
 refine TkS 2 rfl zy ?_
 refine TkS 3 rfl zy ?_
 refine To 4 rfl fun K hK=>?_
 go_simp
 refine(Yd _ (some ⟨X,0,none⟩) (some ⟨Y,0,none⟩) (z.take t) (tg.take t) t t 16 16 FF.out.symm FD.out.symm (sW t oC.srcB) (sW t OC.srcB)).mono ?_
 rintro e w11 ⟨rfl,rfl⟩
 rw[HRR.out]
 refine Ko hK ?_ fun zy=>?_
 ·trivial
 clear hK K
 refine TkS 5 rfl zy ?_
 refine Wd ?_
 clear zy oC OC
 cases r with
 | false =>
  go_wp2_with fail
  go_ret2
  exact⟨_,by rw[(cN.out.1 HR.out).out];rfl,by rw[(cN.out.1 HR.out).out];exact OwnB.nil _ _,b10⟩
 | true =>
 go_wp2_with fail
 go_ret2
 exact⟨_,by rw[(cN.out.2 HR.out).out];rfl,by rw[(cN.out.2 HR.out).out,Cm.out];exact wO,b10⟩
def beN (l:List UInt8):Nat:=l.foldl (fun x c=>x*256+c.toNat) 0
theorem Pa (l:List UInt8) (c:UInt8):beN (l++[c])=beN l*256+c.toNat:=by simp[beN]
theorem rn (l:List UInt8):beN l<256 ^ l.length:=by
 suffices h:∀ (l:List UInt8) (a:Nat),l.foldl (fun x c=>x*256+c.toNat) a<(a+1)*256 ^ l.length by
  have:=h l 0;rw[Nat.zero_add,Nat.one_mul]at this
  exact this
 intro l
 induction l with
 | nil=>intro a;simp
 | cons c l ih =>
 intro a
 have hc:=c.toNat_lt;rw[List.foldl_cons,List.length_cons,Nat.pow_succ]
 refine Nat.lt_of_lt_of_le (ih _) ?_
 have:(a*256+c.toNat+1)*256 ^ l.length≤((a+1)*256)*256 ^ l.length:=Nat.mul_le_mul_right _ (by omega);rw[Nat.mul_assoc,Nat.mul_comm 256]at this
 exact this
theorem vR {c:UInt8}{n:Nat}(h:n%256=c.toNat):u8 n=c:=by
 apply UInt8.toNat_inj.1
 rw[gV,h]
theorem RE {l:List UInt8}(h:l.length=1):∃ a,l=[a]:=by
 match l,h with
 | [a],_=>exact⟨a,rfl⟩
theorem MZ {l:List UInt8}(h:l.length=2):∃ a b,l=[a,b]:=by
 match l,h with
 | [a,b],_=>exact⟨a,b,rfl⟩
theorem Qq {l:List UInt8}(h:l.length=4):∃ a b c d,l=[a,b,c,d]:=by
 match l,h with
 | [a,b,c,d],_=>exact⟨a,b,c,d,rfl⟩
theorem G5 {l:List UInt8}(h:l.length=8):∃ a b c d e f g i,l=[a,b,c,d,e,f,g,i]:=by
 match l,h with
 | [a,b,c,d,e,f,g,i],_=>exact⟨a,b,c,d,e,f,g,i,rfl⟩
theorem GR (a:UInt8):beN [a]=a.toNat:=by simp[beN]
theorem GT (a b:UInt8):beN [a,b]=a.toNat*256+b.toNat:=by simp[beN]
theorem GU (a b c d:UInt8):beN [a,b,c,d]=a.toNat*16777216+b.toNat*65536+c.toNat*256+d.toNat:=by simp[beN];omega
theorem Bo (a b c d e f g i:UInt8):beN [a,b,c,d,e,f,g,i]=a.toNat*72057594037927936+b.toNat*281474976710656+c.toNat*1099511627776+d.toNat*4294967296+e.toNat*16777216+f.toNat*65536+g.toNat*256+i.toNat:=by simp[beN];omega
theorem Vb {l:List UInt8}(h:l.length=8):be8 (beN l) 8=l:=by
 obtain⟨a,b,c,d,e,f,g,i,rfl⟩:=G5 h;have ha:=a.toNat_lt;have hb:=b.toNat_lt;have hc:=c.toNat_lt;have hd:=d.toNat_lt;have he:=e.toNat_lt;have hf:=f.toNat_lt;have hg:=g.toNat_lt;have hi:=i.toNat_lt
 rw[Bo]
 simp only[be8,Nat.reducePow,Nat.reduceMul,Nat.reduceSub,List.nil_append,List.cons_append]
 rw[vR (c:=a) (by omega),vR (c:=b) (by omega),vR (c:=c) (by omega),vR (c:=d) (by omega),vR (c:=e) (by omega),vR (c:=f) (by omega),vR (c:=g) (by omega),vR (c:=i) (by omega)]
def zH:List UInt8→Except Nat (Nat×Nat×Nat)
 | []=>.error 2
 | f::t =>
 if 27<f.toNat%32 then .error 3
 else if f.toNat%32<24 then .ok (f.toNat,f.toNat%32,1)
 else if t.length<2 ^ (f.toNat%32-24) then .error 2
 else if f.toNat/32<7∧(zV 0 (beN (t.take (2 ^ (f.toNat%32-24))))).length≠1+2 ^ (f.toNat%32-24) then .error 4
 else .ok (f.toNat,beN (t.take (2 ^ (f.toNat%32-24))),1+2 ^ (f.toNat%32-24))
def wt (v:Nat):Nat :=
 if v/1024%32=31 then v/32768*9223372036854775808+9218868437227405312+v%1024*4398046511104
 else if v/1024%32=0 then(if v%1024=0 then v/32768*9223372036854775808 else v/32768*9223372036854775808+(999+(v%1024).log2)*4503599627370496+(v%1024*2 ^ (52-(v%1024).log2)-4503599627370496))
 else v/32768*9223372036854775808+(v/1024%32+1008)*4503599627370496+v%1024*4398046511104
def wD (v:Nat):Nat :=
 if v/8388608%256=255 then v/2147483648*9223372036854775808+9218868437227405312+v%8388608*536870912
 else if v/8388608%256=0 then(if v%8388608=0 then v/2147483648*9223372036854775808 else v/2147483648*9223372036854775808+(874+(v%8388608).log2)*4503599627370496+(v%8388608*2 ^ (52-(v%8388608).log2)-4503599627370496))
 else v/2147483648*9223372036854775808+(v/8388608%256+896)*4503599627370496+v%8388608*536870912
def uf (low n:Nat):Nat:=if low=25 then wt n else if low=26 then wD n else n
def yT (low n:Nat):Except Nat Itm :=
 if low<24 then .ok (.mk 7 n [] [])
 else if low=24 then(if n<32 then .error 4 else .ok (.mk 7 n [] []))
 else if(isNaN (uf low n)&&uf low n != yK)||(yw (uf low n)).length != 1+2 ^ (low-24) then .error 4
 else .ok (.mk 8 (uf low n) [] [])
inductive PL where
 | err (e:Nat)
 | ok (l:List Itm) (k c:Nat)
inductive PR where
 | err (e:Nat)
 | ok (x:Itm) (k c:Nat)
def vq (p:List UInt8→Nat→PR):Nat→List UInt8→Nat→PL
 | 0,_,c=>.ok [] 0 c
 | n+1,b,c=>match p b c with
  | .err e=>.err e
  | .ok x k c'=>match vq p n (b.drop k) c' with
   | .err e=>.err e
   | .ok l k' c''=>.ok (x::l) (k+k') c''
def sJ (last:Option (List UInt8)) (key:List UInt8):Option Nat :=
 match last with
 | none=>none
 | some l=>if Lib.compareBytes key l=0 then some 7 else if Lib.compareBytes key l<0 then some 6 else none
def wQ (p:List UInt8→Nat→PR):Nat→List UInt8→Nat→Option (List UInt8)→PL
 | 0,_,c,_=>.ok [] 0 c
 | n+1,b,c,last=>match p b c with
  | .err e=>.err e
  | .ok x k c'=>match sJ last (b.take k) with
   | some e=>.err e
   | none=>match p (b.drop k) c' with
    | .err e=>.err e
    | .ok y k' c''=>match wQ p n (b.drop (k+k')) c'' (some (b.take k)) with
     | .err e=>.err e
     | .ok l k'' c3=>.ok (x::y::l) (k+k'+k'') c3
def ze:Nat→List UInt8→Nat→PR
 | d,b,c =>
 if 256≤c then .err 8
 else match zH b with
  | .error e=>.err e
  | .ok (f,n,k) =>
  if f/32≤1 then .ok (.mk (f/32:Nat) n [] []) k (c+1)
  else if f/32≤3 then
   (if b.length<k+n then .err 2
   else if f/32=3∧Lib.validD ((b.drop k).take n)=false then .err 5
   else .ok (.mk (f/32:Nat) 0 ((b.drop k).take n) []) (k+n) (c+1))
  else if f/32=7 then
   (match yT (f%32) n with
   | .error e=>.err e
   | .ok x=>.ok x k (c+1))
  else match d with
   | 0=>.err 8
   | d+1 =>
   if f/32=6 then(match ze d (b.drop k) (c+1) with
    | .err e=>.err e
    | .ok x k' c'=>.ok (.mk 6 n [] [x]) (k+k') c')
   else if f/32=5 then(match wQ (ze d) n (b.drop k) (c+1) none with
    | .err e=>.err e
    | .ok l k' c'=>.ok (.mk 5 0 [] l) (k+k') c')
   else(match vq (ze d) n (b.drop k) (c+1) with
    | .err e=>.err e
    | .ok l k' c'=>.ok (.mk 4 0 [] l) (k+k') c')
theorem Ww {m low:Nat}(xv:24≤low∧low≤27) {t:List UInt8}(ht:t.length=2 ^ (low-24)) (h:(zV 0 (beN t)).length=1+2 ^ (low-24)):zV m (beN t)=u8 (m*32+low)::t:=by
 rw[yM]at h
 rcases(by omega:low=24∨low=25∨low=26∨low=27) with rfl | rfl | rfl | rfl
 ·obtain⟨a,rfl⟩:=RE (by simpa using ht);have:=a.toNat_lt;rw[GR]at h⊢;rw[o5]
  have h1:24≤a.toNat:=by
   exact jcB
  simp only[gl,gm,show ¬ a.toNat<24 by omega,show a.toNat<256 by omega,if_true,if_false]
  rw[vR (n:=a.toNat) (c:=a) (by omega)]
 ·obtain⟨a,b,rfl⟩:=MZ (by simpa using ht);have ha:=a.toNat_lt;have hb:=b.toNat_lt
  rw[GT]at h⊢;obtain⟨q,hq⟩:∃ q,a.toNat*256+b.toNat=q:=⟨_,rfl⟩
  rw[hq]at h⊢
  have h1:256≤q:=by
   exact jcB
  rw[o5]
  simp only[gl,gm,show ¬ q<24 by omega,show ¬ q<256 by omega,show q<65536 by omega,if_true,if_false]
  rw[vR (n:=q/256) (c:=a) (by omega),vR (n:=q) (c:=b) (by omega)]
 ·obtain⟨a,b,c,d,rfl⟩:=Qq (by simpa using ht);have ha:=a.toNat_lt;have hb:=b.toNat_lt;have hc:=c.toNat_lt;have hd:=d.toNat_lt
  rw[GU]at h⊢;obtain⟨q,hq⟩:∃ q,a.toNat*16777216+b.toNat*65536+c.toNat*256+d.toNat=q:=⟨_,rfl⟩
  rw[hq]at h⊢
  have h1:65536≤q:=by
   exact jcB
  rw[o5]
  simp only[gl,gm,show ¬ q<24 by omega,show ¬ q<256 by omega,show ¬ q<65536 by omega,show q<4294967296 by omega,if_true,if_false]
  rw[vR (n:=q/16777216) (c:=a) (by omega),vR (n:=q/65536) (c:=b) (by omega),vR (n:=q/256) (c:=c) (by omega),vR (n:=q) (c:=d) (by omega)]
 have h1:4294967296≤beN t:=by
  exact jcB
 rw[o5]
 simp only[gl,gm,show ¬ beN t<24 by omega,show ¬ beN t<256 by omega,show ¬ beN t<65536 by omega,show ¬ beN t<4294967296 by omega,if_false]
 rw[Vb (by simpa using ht)]
structure HeadIs (b:List UInt8) (f n k:Nat):Prop where
 le:k≤b.length
 pos:0<k
 f_lt:f<256
 low:f%32≤27
 small:f%32<24→n=f%32∧k=1∧b.take k=[u8 f]
 wide:24≤f%32→k=1+2 ^ (f%32-24)∧∃ t,t.length=2 ^ (f%32-24)∧b.take k=u8 f::t∧n=beN t
 n_lt:n<18446744073709551616
 enc:f/32<7→zV (f/32) n=b.take k
theorem ws {b:List UInt8}{f n k:Nat}(h:zH b=.ok (f,n,k)):HeadIs b f n k:=by
 cases b with
 | nil=>cases h
 | cons g t =>
 have hg:=g.toNat_lt
 simp only[zH]at h
 split at h
 ·cases h
 rename_i q1
 split at h
 ·rename_i q2
  injection h with h
  simp only[Prod.mk.injEq]at h
  obtain⟨rfl,rfl,rfl⟩:=h;have hu:u8 g.toNat=g:=vR (by omega)
  refine⟨by simp,by omega,hg,by omega,fun _=>⟨rfl,rfl,by simp[hu]⟩,fun h=>by omega,by omega,fun h7=>?_⟩
  rw[o5]
  simp only[gl,gm,q2,if_true]
  rw[show g.toNat/32*32+g.toNat%32=g.toNat by omega,hu]
  simp
 rename_i q2
 split at h
 ·cases h
 rename_i q3
 split at h
 ·cases h
 rename_i q4
 injection h with h
 simp only[Prod.mk.injEq]at h
 obtain⟨rfl,rfl,rfl⟩:=h;have hu:u8 g.toNat=g:=vR (by omega);obtain⟨low,xv⟩:∃ low,g.toNat%32=low:=⟨_,rfl⟩
 rw[xv]at q1 q2 q3 q4⊢
 have hz:2 ^ (low-24)≤8:=by
  rcases(by omega:low=24∨low=25∨low=26∨low=27) with rfl | rfl | rfl | rfl <;> decide
 have Mv:(t.take (2 ^ (low-24))).length=2 ^ (low-24):=by rw[List.length_take];omega
 have ht:(g::t).take (1+2 ^ (low-24))=g::t.take (2 ^ (low-24)):=by rw[Nat.add_comm,List.take_succ_cons]
 refine⟨by rw[List.length_cons];omega,by omega,hg,by omega,fun h=>by omega,fun _=>⟨by rw[xv],_,by rw[xv];exact Mv,by rw[ht,hu],rfl⟩, ?_,fun h7=>?_⟩
 ·refine Nat.lt_of_lt_of_le (rn _) ?_
  rw[Mv]
  exact Nat.pow_le_pow_right (n:=256) (by omega) hz
 rw[ht,Ww (low:=low) (by omega) Mv (by
  rcases Nat.lt_or_ge 0 1 with _ | _
  ·exact Classical.byContradiction fun h=>q4 ⟨h7,h⟩
  exact absurd ‹1≤0› (by omega)),show g.toNat/32*32+low=g.toNat by omega,hu]
theorem rP {n s e m:Nat}(h:n=s*9223372036854775808+e*4503599627370496+m) (hs:s≤1) (he:e<2048) (hm:m<4503599627370496) :
  n/4503599627370496%2048=e∧n%4503599627370496=m∧n/9223372036854775808=s:=by subst h;refine⟨?_, ?_, ?_⟩ <;> omega
theorem Yu {n v s x f:Nat}(h:aE n v s x f):ye n 5 10=some v:=by
 obtain⟨a1,a2,a3,a4,h⟩:=h
 rcases h with ⟨h1,h2,h3⟩ | ⟨h1,h2,h3⟩ | ⟨h1,h2,h3⟩ | ⟨h1,t,full,h2,h3,h4,h5,h6,h7⟩
 ·obtain⟨k1,k2,k3⟩:=rP (n:=n) (s:=s) (e:=2047) (m:=0) (by rw[h3]) a1 (by omega) (by omega);rw[ye]
  simp only[Nat.reducePow,Nat.reduceSub,Nat.reduceAdd,Nat.reduceMul]
  rw[k1,k2,k3,if_pos rfl,if_pos rfl];congr 1;omega
 ·obtain⟨k1,k2,k3⟩:=rP (n:=n) (s:=s) (e:=0) (m:=0) (by rw[h3,Nat.zero_mul,Nat.add_zero]) a1 (by omega) (by omega);rw[ye]
  simp only[Nat.reducePow,Nat.reduceSub,Nat.reduceAdd,Nat.reduceMul]
  rw[k1,k2,k3,if_neg (by omega),if_pos rfl,if_pos rfl];congr 1;omega
 ·obtain⟨k1,k2,k3⟩:=rP (n:=n) (s:=s) (e:=x+1008) (m:=f*4398046511104) (by omega) a1 (by omega) (by omega);rw[ye]
  simp only[Nat.reducePow,Nat.reduceSub,Nat.reduceAdd,Nat.reduceMul]
  rw[k1,k2,k3];exact jcF
 have e2:2 ^ (t+1)*2 ^ (52-t)=9007199254740992:=by
  exact jbE
 have b2:=Nat.mul_lt_mul_of_pos_right h4 (Nat.two_pow_pos (52-t));rw[e2,← h5]at b2;obtain⟨k1,k2,k3⟩:=rP (n:=n) (s:=s) (e:=999+t) (m:=full-4503599627370496) h7 a1 (by omega) (by omega);rw[ye]
 simp only[Nat.reducePow,Nat.reduceSub,Nat.reduceAdd,Nat.reduceMul]
 rw[k1,k2,k3];rw[if_neg (by omega),if_neg (by omega),if_neg (by omega),if_neg (by omega),if_neg (by omega),show 43+(1023-(999+t)-15)=52-t by omega,show full-4503599627370496+4503599627370496=full by omega,h5,if_pos (Nat.mul_mod_left _ _),Nat.mul_div_cancel _ (Nat.two_pow_pos _)];congr 1;omega
theorem pw {f t:Nat}(h1:2 ^ t≤f) (h2:f<2 ^ (t+1)) (ht:t≤52):4503599627370496≤f*2 ^ (52-t)∧f*2 ^ (52-t)<9007199254740992:=by
 have e1:2 ^ t*2 ^ (52-t)=4503599627370496:=by
  exact jcw
 have e2:2 ^ (t+1)*2 ^ (52-t)=9007199254740992:=by
  exact jbE
 have b1:=Nat.mul_le_mul_right (2 ^ (52-t)) h1;have b2:=Nat.mul_lt_mul_of_pos_right h2 (Nat.two_pow_pos (52-t))
 omega
theorem oz {v:Nat}(hv:v<65536) (hn:¬ (v/1024%32=31∧v%1024≠0)):aE (wt v) v (v/32768) (v/1024%32) (v%1024)∧wt v<18446744073709551616:=by
 obtain⟨s,hs⟩:∃ s,v/32768=s:=⟨_,rfl⟩
 obtain⟨x,hx⟩:∃ x,v/1024%32=x:=⟨_,rfl⟩
 obtain⟨f,hf⟩:∃ f,v%1024=f:=⟨_,rfl⟩
 have xZ:s≤1:=by omega
 have rl:x≤31:=by omega
 have rv:f<1024:=by omega
 have YR:v=s*32768+x*1024+f:=by omega
 rw[hx,hf]at hn;rw[wt,hs,hx,hf];clear hs hx hf
 by_cases h1:x=31
 ·exact jcC
 rw[if_neg h1]
 by_cases h2:x=0
 ·rw[if_pos h2]
  by_cases h0:f=0
  ·exact jc8
  rw[if_neg h0];obtain⟨a1,a2⟩:=jhd;have a3:f.log2<10:=(Nat.log2_lt h0).2 (by simpa using rv)
  exact jbH
 exact jcK
theorem p9 {v:Nat}(hv:v<4294967296) (hn:¬ (v/8388608%256=255∧v%8388608≠0)):qZ (wD v) v (v/2147483648) (v/8388608%256) (v%8388608)∧wD v<18446744073709551616:=by
 obtain⟨s,hs⟩:∃ s,v/2147483648=s:=⟨_,rfl⟩
 obtain⟨x,hx⟩:∃ x,v/8388608%256=x:=⟨_,rfl⟩
 obtain⟨f,hf⟩:∃ f,v%8388608=f:=⟨_,rfl⟩
 have xZ:s≤1:=by omega
 have rl:x≤255:=by omega
 have rv:f<8388608:=by omega
 have YR:v=s*2147483648+x*8388608+f:=by omega
 rw[hx,hf]at hn;rw[wD,hs,hx,hf];clear hs hx hf
 by_cases h1:x=255
 ·exact jcC
 rw[if_neg h1]
 by_cases h2:x=0
 ·rw[if_pos h2]
  by_cases h0:f=0
  ·exact jc8
  rw[if_neg h0];obtain⟨a1,a2⟩:=jhd;have a3:f.log2<23:=(Nat.log2_lt h0).2 (by simpa using rv)
  exact jbH
 exact jcK
theorem Qs {n s m:Nat}(h:n=s*9223372036854775808+2047*4503599627370496+m) (hs:s≤1) (hm:m<4503599627370496) (h0:m≠0):isNaN n=true:=by
 obtain⟨k1,k2,_⟩:=rP h hs (by omega) hm;rw[isNaN]
 simp only[Nat.reducePow,k1,k2]
 simp[h0]
theorem tL {n e m s:Nat}(h:n=s*9223372036854775808+e*4503599627370496+m) (hs:s≤1) (he:e≤2047) (hm:m<4503599627370496) (h0:e=2047→m=0):isNaN n=false:=by
 obtain⟨k1,k2,_⟩:=rP h hs (by omega) hm;rw[isNaN]
 simp only[Nat.reducePow,k1,k2]
 rcases Nat.lt_or_ge e 2047 with h' | h'
 ·have:(e==2047)=false:=by simp;omega
  rw[this];rfl
 rw[h0 (by omega)];simp
theorem kp {n v s x f:Nat}(h:aE n v s x f):isNaN n=false:=by
 obtain⟨a1,a2,a3,a4,h⟩:=h
 rcases h with ⟨h1,h2,h3⟩ | ⟨h1,h2,h3⟩ | ⟨h1,h2,h3⟩ | ⟨h1,t,full,h2,h3,h4,h5,h6,h7⟩
 ·exact jc9
 ·exact jcI
 ·exact tL (s:=s) (e:=x+1008) (m:=f*4398046511104) (by omega) a1 (by omega) (by omega) (fun h=>by omega)
 have b:=pw h3 h4 (by omega);rw[← h5]at b
 exact tL (s:=s) (e:=999+t) (m:=full-4503599627370496) h7 a1 (by omega) (by omega) (fun h=>by omega)
theorem kq {n v s x f:Nat}(h:qZ n v s x f):isNaN n=false:=by
 obtain⟨a1,a2,a3,a4,h⟩:=h
 rcases h with ⟨h1,h2,h3⟩ | ⟨h1,h2,h3⟩ | ⟨h1,h2,h3⟩ | ⟨h1,t,full,h2,h3,h4,h5,h6,h7⟩
 ·exact jc9
 ·exact jcI
 ·exact tL (s:=s) (e:=x+896) (m:=f*536870912) (by omega) a1 (by omega) (by omega) (fun h=>by omega)
 have b:=pw h3 h4 (by omega);rw[← h5]at b
 exact tL (s:=s) (e:=874+t) (m:=full-4503599627370496) h7 a1 (by omega) (by omega) (fun h=>by omega)
theorem gB {v:Nat}(hv:v<65536) (h:v/1024%32=31∧v%1024≠0):isNaN (wt v)=true∧(wt v=yK↔v=32256):=by
 obtain⟨h1,h2⟩:=h;have e:wt v=v/32768*9223372036854775808+2047*4503599627370496+v%1024*4398046511104:=by rw[wt,if_pos h1]
 refine⟨Qs e (by omega) (by omega) (by omega), ?_⟩
 rw[e,yK]
 omega
theorem gC {v:Nat}(hv:v<4294967296) (h:v/8388608%256=255∧v%8388608≠0):isNaN (wD v)=true:=by
 obtain⟨h1,h2⟩:=h;have e:wD v=v/2147483648*9223372036854775808+2047*4503599627370496+v%8388608*536870912:=by rw[wD,if_pos h1]
 exact Qs e (by omega) (by omega) (by omega)
theorem tU {n:Nat}(h:isNaN n=true):yw n=[u8 249,u8 126,u8 0]:=by rw[yw,if_pos h]
theorem jN {n:Nat}(h:isNaN n=false):(yw n).length=(if(ye n 5 10).isSome then 3 else if(ye n 8 23).isSome then 5 else 9):=by
 rw[yw,if_neg (by simp[h])]
 cases ye n 5 10 with
 | some v=>rfl
 | none=>cases ye n 8 23 with
  | some v=>rfl
  | none=>simp[sQ]
theorem Wu {low n f:Nat}(hl:25≤low∧low≤27) {t:List UInt8}(ht:t.length=2 ^ (low-24)) (hn:n=beN t) (hf:f=uf low n)
  (h1:¬ (isNaN f=true∧f≠yK)) (h2:(yw f).length=1+2 ^ (low-24)):yw f=u8 (7*32+low)::t∧f<18446744073709551616:=by
 rcases(by omega:low=25∨low=26∨low=27) with rfl | rfl | rfl
 ·obtain⟨a,b,rfl⟩:=MZ (by simpa using ht);have ha:=a.toNat_lt;have hb:=b.toNat_lt
  rw[GT]at hn;have hv:n<65536:=by omega
  rw[uf,if_pos rfl]at hf
  by_cases hx:n/1024%32=31∧n%1024≠0
  ·obtain⟨q1,q2⟩:=gB hv hx;rw[← hf]at q1 q2;have sj:f=yK:=Classical.byContradiction fun h=>h1 ⟨q1,h⟩
   have cm:=q2.1 sj;rw[tU q1]
   refine⟨?_,by rw[sj];decide⟩
   rw[vR (n:=126) (c:=a) (by omega),vR (n:=0) (c:=b) (by omega)]
  obtain⟨q1,q2⟩:=oz hv hx;rw[← hf]at q1 q2
  refine⟨?_,q2⟩
  rw[yw,if_neg (by rw[kp q1];simp),Yu q1]
  simp only
  rw[vR (n:=n/256) (c:=a) (by omega),vR (n:=n) (c:=b) (by omega)]
 ·obtain⟨a,b,c,d,rfl⟩:=Qq (by simpa using ht);have ha:=a.toNat_lt;have hb:=b.toNat_lt;have hc:=c.toNat_lt;have hd:=d.toNat_lt
  rw[GU]at hn;have hv:n<4294967296:=by omega
  rw[uf,if_neg (by omega),if_pos rfl]at hf
  by_cases hx:n/8388608%256=255∧n%8388608≠0
  ·have q1:=gC hv hx;rw[← hf]at q1;rw[tU q1]at h2
   simp at h2
  obtain⟨q1,q2⟩:=p9 hv hx;rw[← hf]at q1 q2
  refine⟨?_,q2⟩
  have q3:=kq q1;have q4:=nh q1;rw[jN q3,q4]at h2
  have q5:ye f 5 10=none:=by
   exact jdt
  rw[yw,if_neg (by rw[q3];simp),q5,q4]
  simp only
  rw[vR (n:=n/16777216) (c:=a) (by omega),vR (n:=n/65536) (c:=b) (by omega),vR (n:=n/256) (c:=c) (by omega),vR (n:=n) (c:=d) (by omega)]
 have BM:t.length=8:=by simpa using ht
 have hb:=rn t;rw[BM,← hn]at hb;rw[uf,if_neg (by omega),if_neg (by omega)]at hf;subst hf
 refine⟨?_,by omega⟩
 cases q3:isNaN f with
 | true =>
  rw[tU q3]at h2
  simp at h2
 | false =>
 rw[jN q3]at h2
 have q5:ye f 5 10=none:=by
  exact jdt
 have q6:ye f 8 23=none:=by
  cases h:ye f 8 23 with
  | none=>rfl
  | some v=>rw[h,q5]at h2;simp at h2
 rw[yw,if_neg (by rw[q3];simp),q5,q6]
 simp only
 rw[hn,Vb BM]
theorem qw {low n:Nat}{x:Itm}(hl:low≤27) {t:List UInt8}(qo:low<24→n=low∧t=[]) (hw:24≤low→t.length=2 ^ (low-24)∧n=beN t) (h:yT low n=.ok x) :
  xB x=u8 (7*32+low)::t∧(∀ lv,Good x lv)∧x.n<18446744073709551616∧x.items=[]∧cnt x=1:=by
 rw[yT]at h
 have good7:∀ (n:Nat),(n<24∨32≤n∧n<256)→∀ lv,Good (.mk 7 n [] []) lv:=fun n hn lv=>by
  rw[Good]
  refine⟨?_, ?_,fun h=>by omega⟩
  ·rw[tV,if_pos (by simp[vG,Itm.kind])]
   rcases hn with hn | ⟨h1,h2⟩ <;> simp[tY,Itm.kind,Itm.n,Itm.bytes,Itm.items, *]
  rw[GoodL];trivial
 split at h
 ·rename_i q1
  injection h with h
  subst h;obtain⟨rfl,rfl⟩:=qo q1
  refine⟨?_,good7 _ (.inl q1),by simp only[Itm.n];omega,rfl,by simp[cnt,qg]⟩
  rw[um,if_neg (by simp[Itm.kind]),if_neg (by simp[Itm.n];omega)];have e:sf (.mk 7 n [] [])=n:=by simp[sf,Itm.kind,Itm.n]
  rw[e,zV,if_pos q1]
  simp[Itm.bytes,Itm.items,Itm.kind,ut]
 split at h
 ·rename_i q1 q2
  subst q2
  split at h
  ·cases h
  rename_i q3
  injection h with h
  subst h;obtain⟨ht,hn⟩:=hw (by omega);obtain⟨a,rfl⟩:=RE (by simpa using ht);have ha:=a.toNat_lt;rw[GR]at hn
  refine⟨?_,good7 _ (.inr (by omega)),by simp only[Itm.n];omega,rfl,by simp[cnt,qg]⟩
  rw[um,if_neg (by simp[Itm.kind]),if_pos (by simp[Itm.n,Itm.kind];omega)]
  simp only[Itm.n]
  rw[vR (n:=n) (c:=a) (by omega)]
 rename_i q1 q2
 split at h
 ·cases h
 rename_i q3
 injection h with h
 subst h;obtain⟨ht,hn⟩:=hw (by omega)
 simp only[Bool.or_eq_true,Bool.and_eq_true,bne_iff_ne,ne_eq,not_or]at q3
 obtain⟨q3,q4⟩:=q3;have q4':=Classical.not_not.1 q4;obtain⟨e,he⟩:=Wu (low:=low) (n:=n) (by omega) ht hn rfl q3 q4'
 refine⟨?_,fun lv=>?_,he,rfl,by simp[cnt,qg]⟩
 ·rw[um,if_pos (by simp[Itm.kind])]
  exact e
 rw[Good]
 refine⟨?_,by rw[GoodL];trivial,fun h=>by omega⟩
 rw[tV,if_pos (by simp[vG,Itm.kind])]
 simp[tY,Itm.kind,Itm.n,Itm.bytes,Itm.items]
 cases hN:isNaN (uf low n) with
 | false=>exact .inl rfl
 | true=>exact .inr (Classical.byContradiction fun h=>q3 ⟨hN,h⟩)
end Go.Proofs.YtkmlnjociijpgaaGreatDoor
