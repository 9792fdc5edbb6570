/- squeezed. What EnvelopeLayers and EnvelopeBa -/
import Derived.Test.YtliomcphdnppnaaGreatDoorK45
import Derived.Test.YtliomcphdnppnaaGreatDoorK46
set_option linter.unusedVariables false
set_option linter.unusedSimpArgs false
set_option maxRecDepth 100000
set_option maxHeartbeats 25600000
namespace Go.Proofs.YtliomcphdnppnaaGreatDoor
open Go.RowKit
theorem jas{P:Prop}(h:P:=by
 refine Ko hK ?_ fun zy=>?_
 ·trivial
 clear hK K
 refine To 6 rfl fun K hK=>?_
 go_simp
 have ST:=nX BS (nc:=nc) HN.out (by have:=HV.out;have:=HN.out;omega) (TA:=PA) (tn:=m) (tc:=pc) (text:=cipher.take m) TK.out (by have:=HB.out;have:=TK.out;have:=HT.out;omega) (tag:=G) MQ.out _ (HS.out.2.1.below b4) (oM m (HS.out.2.2.2.below b4)) oD
 refine ST.mono ?_
 clear ST;rintro e w5 ⟨v,rfl,hO,xS⟩
 obtain⟨A,c,rfl,hc,oe⟩:=hO.form;clear oe;have J8:=Hh hc;rw[En.out];rw[U5.out]at hO hc⊢;rw[lf.out]at hc⊢;rw[lf.out]at hO;have U9:=fun q hq=>(hO.lt q hq).1
 try simp only[zW,zr]at U9
 replace U9:=Hh U9;replace hO:=hO.more b4.size
 try replace hX:=hX.below xS
 replace oD:=oD.below xS;replace b4:=b4.trans (xS.mono b4.size);clear h4
 refine Ko hK ?_ fun zy=>?_
 ·trivial
 clear hK K
 refine TkS 7 rfl zy ?_
 refine TkS 8 rfl zy ?_
 refine TkS 9 rfl zy ?_
 exact jd9):P:=h
theorem jbA{P:Prop}(h:P:=by
 go_wp2_with (with_reducible refine zx ?_)
 refine zv rfl _ _ _ rfl rfl _ _ rfl rfl _ _ hR wZ rfl (uX) fun wz hRz yS=>?_
 have rt:=hG.grownOwn UA (by omega) yS;clear hR yS;go_wp2_with fail
 refine zp rfl rfl hRz rfl rfl wZ rfl ?_
 exact ESealOut.bad E.out (by omega) rt rfl):P:=h
theorem jc2{P:Prop}(h:P:=by rcases hg with ⟨rfl,rfl⟩ | ⟨rfl,rfl⟩ <;> rfl):P:=h
theorem jc9{P:Prop}(h:P:=by
 go_wp2_with fail
 go_ret2
 exact R.out):P:=h
theorem jd9{P:Prop}(h:P:=by
 refine TkS 11 rfl zy ?_
 refine To 12 rfl fun K hK=>?_
 rw[if_pos (by rfl)]
 refine zh _ _ _ rfl _ (zf z) rfl rfl _ _ hX (by rw[zX,IJ.out];kernel_rfl) (by rw[zX,IJ.out];rfl) (xI _) fun w7 ig ww=>?_
 have vT:=hO.kept ww (by cases hv:Value.ownBlock (.slice A m c) with | none=>exact .inl rfl | some q=>exact .inr (fun e=>by injection e with e;first | (have:=dD.out q hv;omega) | (have:=U9.out q hv;omega)));have Lx:=oD.grown ww (by intro e;injection e with e;have:=WY.out;omega);have b7:=b4.grown ww b4.size (by rintro q ⟨⟩;exact UC.out)
 refine Ko hK ?_ fun zy=>?_
 ·trivial
 clear hK K
 refine Wd ?_
 clear zy hO hX oD b4 ww;clear Lc hc;go_wp2_with fail
 go_meet
 exact⟨_,_,_,rfl,rfl,(by have:=J8.out;rw[U5.out,lf.out]at this;exact this),ig,vT,b7,Lx⟩):P:=h
theorem jeI{P:Prop}(h:P:=by
 go_enter Tryz.func39,Tryz.ntmps39
 exact ja1):P:=h
theorem Zr {p:Itm}(h:zJ p=true) (h5:p.kind=5) {k v:Itm}(hm:(k,v)∈zT p.items):atL k p.items=some v:=by
 have hs:(atL k p.items).isSome=true:=tG.2 ⟨v,hm⟩
 cases hx:atL k p.items with
 | none=>rw[hx]at hs;cases hs
 | some x =>
 have QX:=hx;rw[oJ]at QX
 cases hf:(zT p.items).find? (fun p=>yL p.1 k) with
 | none=>rw[hf]at QX;cases QX
 | some q =>
 rw[hf]at QX;injection QX with QX
 have h1:=List.mem_of_find?_eq_some hf;have h2:=List.find?_some hf;rw[vS]at h2;have h3:(k,x)∈zT p.items:=by rw[← QX,← h2];exact h1
 rw[eO _ (((yo _).1 h).1.asc h5) k _ _ h3 hm]
theorem V5 {p u:Itm}(hv:zL p u=true) (np:Nums p) (nu:Nums u) {k v v':Itm}(hm:(k,v)∈zT p.items) (hu:(k,v')∈zT u.items):False:=by
 obtain⟨vp,vu,ZT,gK⟩:=yY hv;obtain⟨lp,lu⟩:=ks hv;have kf:wM u p.items=true:=by simp[zL]at hv;exact hv.1.1.2
 rw[pt,List.all_eq_true]at kf;have h1:=kf _ hm
 simp only at h1
 rw[mD gK vu nu lu (vK vp (wt hm).1) (np.items.get _ (wt hm).1),Zr vu gK hu]at h1
 cases h1
theorem R8 {p u:Itm}(hv:zL p u=true) (np:Nums p) (nu:Nums u) {alg:Int}(ha:AlgIn p u alg):vj p u 1=some (zS alg):=by
 obtain⟨vp,vu,ZT,gK⟩:=yY hv
 unfold vj
 rcases ha with ha | ha
 ·rw[Zr vp ZT ha]
 cases hx:atL (zS 1) p.items with
 | none=>exact Zr vu gK ha
 | some x =>
 have hs:(atL (zS 1) p.items).isSome=true:=by rw[hx];rfl
 obtain⟨v,hm⟩:=tG.1 hs
 exact(V5 hv np nu hm ha).elim
theorem Zq {p u:Itm}(hv:zL p u=true) (np:Nums p) (nu:Nums u) {k:Nat}(hk:k≤1000) (ha:AlgIn p u (k:Int)):sR p u=k:=by
 have h1:g8 p u 1=some (zS (k:Int)):=by
  rw[g8,if_pos hv,show(1:Int)=((1:Nat):Int) from rfl,NH hv np nu 1 (by omega)]
  exact R8 hv np nu ha
 rw[sR,h1];show Vx (zS (k:Int))=k
 rw[vM,Vx,if_neg (by simp[Itm.kind])];show IntKind.i64.wrap (k:Int)=k
 rw[IntKind.wrap_i64];omega
theorem Zc {ctx:List UInt8}{p:Itm}{ext:List UInt8}(hc:Lib.validD ctx=true) (hl:ctx.length+(yH p).length+ext.length≤4000):zJ (xA ctx p ext [])=true:=by
 rw[yo]
 refine⟨dq hc, ?_, ?_⟩
 ·simp[xA,cnt,yf]
 have h0:=yq 4 0 [] ([.mk 3 0 ctx [],zI (yH p),zI ext]++([]:List (List UInt8)).map zI) (by omega) (by omega);obtain⟨h1,h2,h3⟩:=jf4
 simp only[xA,List.map_nil,List.cons_append,List.nil_append,List.append_nil,zP,List.length_append,List.length_nil]at h0 h1 h2 h3⊢
 omega
theorem Ix {ctx:List UInt8}{p u:Itm}{x:List UInt8}{ys:List (List UInt8)}(hv:zL p u=true) (hs:szL p≤2000) (hc:Lib.validD ctx=true) (hl:ctx.length≤8) (hx:x.length≤600) (hy:ys=[]∨∃ y,ys=[y]∧y.length≤600):xy ctx p u x ys=0:=by
 have vv:=yY hv;have hb:=bS vv.2.2.1 (RS vv.1 vv.2.2.1);rw[xy,if_neg (by rw[hv];simp),if_neg (by rw[hc];simp),if_neg]
 rcases hy with rfl | ⟨y,rfl,hy⟩
 ·rw[Zc hc (by omega)]
  simp
 rw[gU hc (by omega)]
 simp
theorem Uh:Lib.validD wa=true:=by kernel_rfl
theorem XO {p u:Itm}(hv:zL p u=true) (hs:szL p≤2000) (np:Nums p) (nu:Nums u) {t:Nat}{alg:Nat}(hg:alg=10∧t=8∨alg=30∧t=16) (ha:AlgIn p u (alg:Int)) {x y key nonce:List UInt8}(hx:x.length≤600) (hy:y.length≤600) (hk:key.length=16) (pm:7≤nonce.length) (hn:nonce.length≤13) :
  xy wa p u x []=0∧rq p u x y key nonce=0∧oW p u x y key nonce=⟨p,u,oV key nonce (zZ (xA wa p x [])) y t,[]⟩∧qm key nonce (zZ (xA wa p x [])) y t=(0,oV key nonce (zZ (xA wa p x [])) y t):=by
 have hi:xy wa p u x []=0:=Ix hv hs Uh (by decide) hx (.inl rfl);have Ic:=Zq hv np nu (k:=alg) (by omega) ha
 have ht:qi (sR p u)=t:=by
  rw[Ic]
  exact jc2
 have hO:qm key nonce (zZ (xA wa p x [])) y t=(0,oV key nonce (zZ (xA wa p x [])) y t):=by
  have hb:=nT hi;rw[qm,if_neg (by simp only[vw];rcases hg with ⟨_,rfl⟩ | ⟨_,rfl⟩ <;> simp[hk,hn,pm]),if_neg (by omega)]
 have hR:jp p u x y key nonce=(0,oV key nonce (zZ (xA wa p x [])) y t):=by rw[jp,ht,hO]
 have hE:rq p u x y key nonce=0:=by rw[eD hv (by rw[ht];omega) hi,hR]
 exact⟨hi,hE,by rw[oW,if_pos hE,hR],hO⟩
theorem dr {p u:Itm}(hv:zL p u=true) (hs:szL p≤2000) (np:Nums p) (nu:Nums u) {t:Nat}{alg:Nat}(hg:alg=5∧t=32∨alg=4∧t=8) (ha:AlgIn p u (alg:Int)) {x y key:List UInt8}(hx:x.length≤600) (hy:y.length≤600) (hk:key.length=16) :
  xy nK p u x [y]=0∧qy p u x y key=0∧nA p u x y key=⟨p,u,y,(nI key (zZ (xA nK p x [y]))).take t⟩:=by
 have hi:xy nK p u x [y]=0:=Ix hv hs RR (by decide) hx (.inr ⟨y,rfl,hy⟩);have Ic:=Zq hv np nu (k:=alg) (by omega) ha
 have ht:ju (sR p u)=t:=by
  rw[Ic]
  exact jc2
 have hE:qy p u x y key=0:=by rw[dt hv (by rw[ht];omega) (by omega) (by omega),hi]
 exact⟨hi,hE,by rw[nA,if_pos hE,Z6,ht]⟩
theorem Xx {k:Nat}(h:k=10∨k=30∨k=5∨k=4):Yk (zS (k:Int)):=⟨k,h,vM k⟩
def pT (key nonce aad cipher:List UInt8) (t:Nat):Int×List UInt8 :=
 if vw key.length nonce.length t=false then(1,[]) else if 4096<aad.length∨4096+t<cipher.length then(8,[]) else if cipher.length<t then(2,[])
 else if kS key nonce aad cipher t=false then(11,[]) else(0,ga key nonce cipher t)
theorem Ku (news e:List UInt8) (h:news.length≤16):rs (spl (List.replicate 16 0) 0 news) e=rs news e:=by
 apply List.map_congr_left
 intro i hi
 have Lv:i<16:=by simpa using hi
 have:at_ (spl (List.replicate 16 0) 0 news) i=at_ news i:=by
  simp only[at_,spl,List.take_zero,List.nil_append,List.getD_eq_getElem?_getD,Nat.zero_add]
  by_cases hn:i<news.length
  ·rw[List.getElem?_append_left hn]
  rw[List.getElem?_append_right (by omega),List.getElem?_drop,List.getElem?_replicate,if_pos (by omega),List.getElem?_eq_none (by omega)];rfl
 rw[this]
theorem SR {w:World}{A:Option Addr}{l:List UInt8}(m:Nat) (h:Src w A (l.map zm)):Src w (A.map fun x=>x.add m) ((l.drop m).map zm):=fun vl=>by
 obtain⟨b,off,rfl,hc⟩:=h (by intro e;apply vl;rw[List.map_eq_nil_iff]at e;rw[e];simp)
 refine⟨b,off+m, ?_,fun j v hj=>?_⟩
 ·rw[Option.map_some,Addr.add_mid]
 rw[List.map_drop,List.getElem?_drop]at hj;have:=hc _ _ hj;rwa [← Nat.add_assoc]at this
theorem oM {w:World}{A:Option Addr}{l:List UInt8}(m:Nat) (h:Src w A (l.map zm)):Src w A ((l.take m).map zm):=fun vl=>by
 obtain⟨b,off,rfl,hc⟩:=h (by intro e;apply vl;rw[List.map_eq_nil_iff]at e;rw[e];simp)
 refine⟨b,off,rfl,fun j v hj=>?_⟩
 rw[List.map_take,List.getElem?_take]at hj
 split at hj
 ·exact hc _ _ hj
 cases hj
theorem Blk.srcB {w:World}{g:Nat}{t:TypeId}{l:List UInt8}(h:Blk w g t (zf l)):Src w (some ⟨g,0,none⟩) (l.map zm):=fun _=>⟨g,0,rfl,fun j v hj=>h.cell _ (by rw[Nat.zero_add];simpa [zf] using hj)⟩
theorem Blk.newAt {w:World}{g:Nat}{t:TypeId}{cs:Array Value}(_:Blk w g t cs) (t':TypeId) (cs':Array Value):Blk (w.alloc (.cells cs' t')) w.heap.size t' cs':=Blk.new w t' cs'
theorem Zn {w:World}{o:Oper}{a:Act}{K:Act→World→Prop}{Q:Exit→Act→World→Prop}(d s:Operand)
  (ho:o.op=.call { callee:=.builtin .copy,args:=#[d,s],argTypes:=#[23,23] })
  (g off n c:Nat) (hd:a.eval d=.slice (some ⟨g,off,none⟩) n c) (A:Option Addr) (m c':Nat) (news:List UInt8) (hs:a.eval s=.slice A m c') (hm:m=news.length)
  (hr:Src w A (news.map zm)) (yw:news.length≤n) {t:TypeId} {l:List UInt8} (hB:Blk w g t (zf l)) (hfit:off+news.length≤l.length) (h0:news.length≠0)
  (h:∀ w',Blk w' g t (zf (spl l off news))→w.grownBy w' (some g)→K (a.put o.dst (goInt news.length)) w'):o.wp Tryz.prog a w K Q:=by
 subst hm;obtain⟨b,o2,rfl,hc⟩:=hr (by intro e;rw[List.map_eq_nil_iff]at e;rw[e]at h0;exact h0 rfl);have hl:(news.map zm).length=news.length:=by simp
 have Po:=run_copy_row (P:=Tryz.prog) w 23 23 o.type 5 g off n c ⟨b,o2,none⟩ news.length c' (zf l) t (news.map zm) Tryz.underlying23 wD hB (by rw[hl];exact(Nat.min_eq_left yw).symm) (fun j v hj=>by rw[Addr.add_mid];exact hc j v hj) (by rw[zX,hl];exact hfit) (by simp[Value.oneCell'])
 unfold Oper.wp
 simp[execOp,ho,resolve,invoke,builtin,hd,hs,Po,Result.andThen]
 refine h _ ?_ ⟨rfl,rfl,rfl,by simp[World.setRow],fun k hk vl=>setRow_other w g k _ (fun e=>vl (by rw[e]))⟩
 have e:(zf (spl l off news))=(List.take off (zf l).toList++(List.map zm news++List.drop (off+news.length) (zf l).toList)).toArray:=by
  exact jcS
 simp only[List.length_map,zf,spl,List.toList_toArray,List.map_append,List.map_take,List.map_drop,List.append_assoc]at *
 exact setRow_heap w g _ _ t _ hB
theorem N4 {KA:Option Addr}{kn kc:Nat}{key:List UInt8}(ov:kn=key.length) (ZR:kn≤kc) {NA:Option Addr}{nn nc:Nat}{nonce:List UInt8}(sV:nn=nonce.length)
  {AA:Option Addr} {an ac:Nat} {aad:List UInt8} (han:an=aad.length) (hac:an≤ac) {PA:Option Addr} {pn pc:Nat} {cipher:List UInt8} (mq:pn=cipher.length) (lK:pn≤pc) (jx:pc≤9223372036854775807)
  (t:Nat) (ht:t≤16) (w:World) (hsk:Src w KA (key.map zm)) (dR:Src w NA (nonce.map zm)) (X7:Src w AA (aad.map zm)) (dS:Src w PA (cipher.map zm)) :
  Calls Tryz.prog 39 #[.slice KA kn kc,.slice NA nn nc,.slice AA an ac,.slice PA pn pc,.int .i64 (t:Int)] w (lZ w (pT key nonce aad cipher t)):=by
 obtain⟨V,HK,HN,HA⟩:=jgN;have HP:=Hh (And.intro mq (And.intro lK jx));have HT:=Hh ht;have HS:=Hh (And.intro hsk (And.intro dR (And.intro X7 dS)))
 have NO:∀ r:Int×List UInt8,pT key nonce aad cipher t=r→r.2=[]→Hid (lZ w (pT key nonce aad cipher t) (.returned (.tuple #[.slice none 0 0,.int .i64 r.1])) w):=by
  exact jdw
 have UI:(0:Int)≤(t:Int)∧(t:Int)≤16:=by omega
 have hw:IntKind.i64.wrap (4096+(t:Int))=4096+(t:Int):=IntWalk.i64_in _ (by omega)
 cases hv:vw kn nn t with
 | false =>
  have N1:=NO (1,[]) (by rw[pT,← ov,← sV,if_pos hv]) rfl;rw[hv]at V;clear NO ov ZR sV han hac mq lK jx ht hsk dR X7 dS hv;exact jeI
 | true =>
 have HV:Hid (kn=16∧7≤nn∧nn≤13∧4≤t):=by
  exact jcI
 rw[hv]at V
 by_cases hbig:(4096:Int)<(an:Int)∨4096+(t:Int)<(pn:Int)
 ·have N1:=NO (8,[]) (by rw[pT,← ov,← sV,if_neg (by rw[hv];decide),if_pos (by omega)]) rfl;clear NO ov ZR sV han hac mq lK jx ht hsk dR X7 dS hv
  by_cases h1:(4096:Int)<(an:Int)
  ·clear hbig;exact jeI
  have h2:4096+(t:Int)<(pn:Int):=by omega
  clear hbig;exact jeI
 have h1:¬ (4096:Int)<(an:Int):=by omega
 have h2:¬ 4096+(t:Int)<(pn:Int):=by omega
 by_cases Wo:(pn:Int)<(t:Int)
 ·have N1:=NO (2,[]) (by rw[pT,← ov,← sV,if_neg (by rw[hv];decide),if_neg (by omega),if_pos (by omega)]) rfl;clear NO hbig ov ZR sV han hac mq lK jx ht hsk dR X7 dS hv;exact jeI
 have N11:kS key nonce aad cipher t=false→Hid (pT key nonce aad cipher t=(11,[])):=fun h=>by
  rw[Hid,pT,← ov,← sV,if_neg (by rw[hv];decide),if_neg (by omega),if_neg (by omega),if_pos h]
 have N0:kS key nonce aad cipher t=true→Hid (pT key nonce aad cipher t=(0,ga key nonce cipher t)):=fun h=>by
  rw[Hid,pT,← ov,← sV,if_neg (by rw[hv];decide),if_neg (by omega),if_neg (by omega),if_neg (by rw[h];decide)]
 obtain⟨m,hm⟩:∃ m:Nat,m+t=pn:=⟨pn-t,by omega⟩
 have hwm:IntKind.i64.wrap ((pn:Int)-(t:Int))=(m:Int):=by rw[IntWalk.i64_in _ (by omega)];omega
 have aa:(0:Int)≤(m:Int)∧(m:Int)≤(pn:Int)∧(pn:Int)≤(pc:Int):=by omega
 have HB:Hid (an≤4096∧pn≤4096+t∧m+t=pn):=by rw[Hid];omega
 have aW:=Hh (And.intro N11 N0);clear NO hbig ov ZR sV han hac mq lK jx ht hsk dR X7 dS hv N11 N0 hm;obtain rfl:kn=16:=HV.out.1;have NW:=Hh (TP (c:=kc) HK.out.1.symm w HS.out.1);go_enter Tryz.func39,Tryz.ntmps39
 go_wp2_with fail
 refine V.out.mono ?_
 rintro e w1 ⟨rfl,rfl⟩
 go_wp2_with fail
 refine NW.out.mono ?_
 rintro e w2 ⟨N,rfl,hN,hC,b2⟩
 have BS:=aj HK.out.1.symm N;have hz:=Blk.new w2 85 (zf (List.replicate 16 0));have dL:=hC.alloc (.cells (zf (List.replicate 16 0)) 85);have b3:=b2.alloc b2.size (.cells (zf (List.replicate 16 0)) 85)
 have DR:Hid (pn-m=(cipher.drop m).length∧(cipher.drop m).length=t∧pc≠m):=by
  have h1:=HP.out;have h2:=HB.out;have h3:=HV.out;rw[Hid,List.length_drop]
  omega
 obtain⟨M,hM⟩:∃ M,w2.heap.size=M:=⟨_,rfl⟩
 have HM:=Hh hM;have hN4:Hid (N<M∧w.heap.size≤M):=by have:=hC.lt;have:=b2.size;rw[Hid];omega
 rw[hM]at hz;clear hM hC b2 hN;go_upto_region 10 with fail
 try rw[HM.out]
 replace hz:=hz.drew
 refine zw 5 (fun _=>True) (by kernel_rfl) (trivial) (fun zy=>?_)
 refine TkS 0 rfl zy ?_
 refine TkS 1 rfl zy ?_
 refine TkS 2 rfl zy ?_
 refine TkS 3 rfl zy ?_
 refine To 4 rfl fun K hK=>?_
 rw[if_pos (by rfl)]
 refine Zn (.tmp 46) (.tmp 49) rfl M 0 16 16 rfl _ _ _ (cipher.drop m) rfl DR.out.1 (by rw[if_neg DR.out.2.2];exact SR m (HS.out.2.2.2.below b3.drew)) (by rw[DR.out.2.1];exact HT.out) hz (by rw[DR.out.2.1,List.length_replicate];have:=HT.out;omega) (by rw[DR.out.2.1];have:=HV.out;omega) fun w4 h4 oE=>?_
 have oD:=dL.drew.grown oE (by intro e;injection e with e;have:=hN4.out;omega);have b4:=b3.drew.grown oE b3.size (by rintro q ⟨⟩;have:=hN4.out;omega)
 refine Ko hK ?_ fun zy=>?_
 ·trivial
 clear hK K
 refine Wd ?_
 clear zy hz dL b3 oE;rw[show spl (List.replicate 16 0) 0 (cipher.drop m)=spl (List.replicate 16 0) 0 (cipher.drop m) from rfl]at h4;obtain⟨G,hG⟩:∃ G,spl (List.replicate 16 (0:UInt8)) 0 (cipher.drop m)=G:=⟨_,rfl⟩
 rw[hG]at h4;have Ac:G.length=16:=by rw[← hG,Kt (by rw[DR.out.2.1,List.length_replicate];have:=HT.out;omega),List.length_replicate]
 have HZ:Hid (pG key nonce G=pG key nonce (cipher.drop m)):=by rw[Hid,pG,pG,← hG,Ku _ _ (by rw[DR.out.2.1];exact HT.out)]
 have MQ:=Hh Ac;obtain⟨z,hz⟩:∃ z,pG key nonce G=z:=⟨_,rfl⟩
 have zl:z.length=16:=by rw[← hz];exact ri _ _
 have IJ:=Hh zl;have En:=Hh hz;have TK:Hid (m=(cipher.take m).length):=by rw[Hid,List.length_take];have:=HP.out;have:=HB.out;omega
 obtain⟨bd,tf⟩:∃ b,kZ key nonce (cipher.take m)=b:=⟨_,rfl⟩
 have U5:=Hh tf;have lf:Hid (bd.length=m):=by rw[Hid,← tf,uA];exact TK.out.symm
 clear hG Ac hz zl tf V NW;have jx:(pc=m)=False:=eq_false DR.out.2.2;have Lc:m≤pc:=by have:=HP.out;have:=HB.out;omega
 go_upto_region 11 with fail
 go_cut [15,16] (fun s15 s16 wx=>∃ A c X,s15=.slice A m c∧s16=.pointer (some ⟨X,0,none⟩)∧m≤c∧Blk wx X 85 (zf z)∧OwnB wx w.heap.size (.slice A m c) bd∧Below w.heap.size w wx∧Blk wx N 126 (zf (fJ key)))
 case first =>
  replace oD:=oD.drew;replace h4:=h4.drew;replace b4:=b4.drew
  refine zw 13 (fun _=>True) (by kernel_rfl) (trivial) (fun zy=>?_)
  refine TkS 0 rfl zy ?_
  refine TkS 1 rfl zy ?_
  refine TkS 2 rfl zy ?_
  refine TkS 3 rfl zy ?_
  refine TkS 4 rfl zy ?_
  refine Ways.two (i:=5) (j:=10) rfl rfl (by kernel_rfl) (fun K hK=>?_) (fun K hK=>?_)
  ·rw[if_pos (by rfl)]
   refine wp_load_mid _ _ rfl M 0 rfl (G.map zm) _ (by have:=nd h4 0 16;rw[uu MQ.out]at this;exact this) Tryz.underlying85 rfl (by rw[List.length_map,MQ.out];kernel_rfl) ?_
   refine Ko hK ?_ fun zy=>?_
   ·trivial
   clear hK K
   refine Ways.two (i:=6) (j:=10) rfl rfl (by kernel_rfl) (fun K hK=>?_) (fun K hK=>?_)
   ·go_simp
    have ST:=nX BS (nc:=nc) HN.out (by have:=HV.out;have:=HN.out;omega) (TA:=PA) (tn:=m) (tc:=pc) (text:=cipher.take m) TK.out (by have:=HB.out;have:=TK.out;have:=HT.out;omega) (tag:=G) MQ.out _ (HS.out.2.1.below b4) (oM m (HS.out.2.2.2.below b4)) oD
    refine ST.mono ?_
    clear ST;rintro e w5 ⟨v,rfl,hO,xS⟩
    obtain⟨A,c,rfl,hc,oe⟩:=hO.form;clear oe;have J8:=Hh hc;rw[En.out];rw[U5.out]at hO hc⊢;rw[lf.out]at hc⊢;rw[lf.out]at hO;have U9:=fun q hq=>(hO.lt q hq).1
    try simp only[zW,zr]at U9
    replace U9:=Hh U9;replace hO:=hO.more b4.size
    try replace hX:=hX.below xS
    replace oD:=oD.below xS;replace b4:=b4.trans (xS.mono b4.size);clear h4
    refine Ko hK ?_ fun zy=>?_
    ·trivial
    clear hK K
    refine TkS 7 rfl zy ?_
    refine TkS 8 rfl zy ?_
    refine TkS 9 rfl zy ?_
    refine To 10 rfl fun K hK=>?_
    go_simp
    have hX:=oD.newAt 85 (zf (List.replicate 16 0));have UC:=b4.size;have WY:=oD.lt
    try simp only[zW,zr]at WY
    replace WY:=Hh WY
    try have dD:=Hh (hO.lt)
    try simp only[zW,zr]at hX
    try simp only[zW,zr]at UC
    replace UC:=Hh UC
    try replace hO:=hO.alloc (.cells (zf (List.replicate 16 0)) 85)
    replace b4:=b4.alloc b4.size (.cells (zf (List.replicate 16 0)) 85);replace oD:=oD.alloc (.cells (zf (List.replicate 16 0)) 85)
    try replace h4:=h4.alloc (.cells (zf (List.replicate 16 0)) 85)
    refine Ko hK ?_ fun zy=>?_
    ·trivial
    clear hK K
    exact jd9
   go_simp
   have hX:=oD.newAt 85 (zf (List.replicate 16 0));have UC:=b4.size;have WY:=oD.lt
   try simp only[zW,zr]at WY
   replace WY:=Hh WY
   try have dD:=Hh (hO.lt)
   try simp only[zW,zr]at hX
   try simp only[zW,zr]at UC
   replace UC:=Hh UC
   try replace hO:=hO.alloc (.cells (zf (List.replicate 16 0)) 85)
   replace b4:=b4.alloc b4.size (.cells (zf (List.replicate 16 0)) 85);replace oD:=oD.alloc (.cells (zf (List.replicate 16 0)) 85)
   try replace h4:=h4.alloc (.cells (zf (List.replicate 16 0)) 85)
   exact jas
  go_simp
  have hX:=oD.newAt 85 (zf (List.replicate 16 0));have UC:=b4.size;have WY:=oD.lt
  try simp only[zW,zr]at WY
  replace WY:=Hh WY
  try have dD:=Hh (hO.lt)
  try simp only[zW,zr]at hX
  try simp only[zW,zr]at UC
  replace UC:=Hh UC
  try replace hO:=hO.alloc (.cells (zf (List.replicate 16 0)) 85)
  replace b4:=b4.alloc b4.size (.cells (zf (List.replicate 16 0)) 85);replace oD:=oD.alloc (.cells (zf (List.replicate 16 0)) 85)
  try replace h4:=h4.alloc (.cells (zf (List.replicate 16 0)) 85)
  refine Ko hK ?_ fun zy=>?_
  ·trivial
  clear hK K
  refine To 5 rfl fun K hK=>?_
  rw[if_pos (by rfl)]
  refine wp_load_mid _ _ rfl M 0 rfl (G.map zm) _ (by have:=nd h4 0 16;rw[uu MQ.out]at this;exact this) Tryz.underlying85 rfl (by rw[List.length_map,MQ.out];kernel_rfl) ?_
  exact jas
 case rest =>
 obtain⟨A,c,X,rfl,rfl,hc,hX,hO,hb,hC⟩:=hcut;have tl:=ep key nonce aad bd t;obtain⟨tg,MP⟩:∃ x,aR key nonce aad bd t=x:=⟨_,rfl⟩
 rw[MP]at tl;have MS:=Hh MP;have Pz:=Hh tl;have AU:=Hh (oH BS (nc:=nc) HN.out (by have:=HV.out;have:=HN.out;omega) (AA:=AA) (ac:=ac) HA.out.1 HA.out.2 (by have:=HB.out;have:=HA.out;omega) (PA:=A) (pn:=m) (pc:=c) lf.out.symm hc (by have:=HB.out;have:=lf.out;have:=HT.out;omega) t (by have:=HV.out;have:=HT.out;omega) wc (HS.out.2.1.below hb) (HS.out.2.2.1.below hb) hO.src hC);rw[MP]at AU;clear MP tl;go_wp2_with fail
 refine AU.out.mono ?_
 rintro e w8 ⟨rfl,qU⟩
 replace hO:=OwnB.below hO qU;replace hX:=hX.below qU;replace hb:=hb.trans (qU.mono hb.size);clear AU qU hC jx Lc;obtain⟨Y,hY⟩:∃ Y,w8.heap.size=Y:=⟨_,rfl⟩
 have HYN:=Hh hY;have Fi:=Blk.new w8 85 (zf (List.replicate 16 0));rw[hY]at Fi
 have HYX:Hid (X<Y∧(∀ q,Value.ownBlock (.slice A m c)=some q→q<Y)∧w.heap.size≤Y):=by
  refine⟨by have:=hX.lt;omega,fun q hq=>by have:=(OwnB.lt hO q hq).2;omega,by have:=hb.size;omega⟩
 have im:=hX.alloc (.cells (zf (List.replicate 16 0)) 85);have gj:=OwnB.alloc hO (.cells (zf (List.replicate 16 0)) 85);have b9:=hb.alloc hb.size (.cells (zf (List.replicate 16 0)) 85);clear hX hO hb hY;go_wp2_with (with_reducible refine zx ?_)
 unfold zC
 rw[HYN.out]
 refine zv rfl _ _ _ rfl rfl Y (zf tg) rfl rfl _ _ Fi (by rw[zX,Pz.out];kernel_rfl) (by rw[zX,Pz.out];rfl) (xI _) fun w10 LQ xW=>?_
 have WE:=im.grown xW (by intro e;injection e with e;have:=HYX.out.1;omega);have iV:=OwnB.kept gj xW (by cases hv:Value.ownBlock (.slice A m c) with | none=>exact .inl rfl | some q=>exact .inr (fun e=>by injection e with e;have:=HYX.out.2.1 q hv;omega));have b10:=b9.grown xW b9.size (by rintro q ⟨⟩;exact HYX.out.2.2);clear im gj b9 Fi xW;have AJ:Hid ((z.take t).length=t):=by rw[Hid,List.length_take,IJ.out];have:=HT.out;omega
 have HTT:Hid ((tg.take t).length=t):=by rw[Hid,List.length_take,Pz.out];have:=HT.out;omega
 obtain⟨r,hr⟩:∃ r,(z.take t==tg.take t)=r:=⟨_,rfl⟩
 have HR:Hid (kS key nonce aad cipher t=r):=by
  have hl:cipher.length-t=m:=by have:=HP.out;have:=HB.out;omega
  rw[Hid,kS,ga,hl,U5.out,MS.out,← HZ.out,En.out,hr]
 have HBP:Hid (ga key nonce cipher t=bd):=by
  have hl:cipher.length-t=m:=by have:=HP.out;have:=HB.out;omega
  rw[Hid,ga,hl,U5.out]
 have HRR:=Hh hr;clear hr;go_upto_region 13 with fail
 replace WE:=WE.drew;replace LQ:=LQ.drew;replace b10:=b10.drew;replace iV:=OwnB.below iV (Below.refl _ _).drew
 refine zw 6 (fun _=>True) (by kernel_rfl) (trivial) (fun zy=>?_)
 refine TkS 0 rfl zy ?_
 refine TkS 1 rfl zy ?_
 refine TkS 2 rfl zy ?_
 refine TkS 3 rfl zy ?_
 refine To 4 rfl fun K hK=>?_
 go_simp
 refine(pK _ (some ⟨X,0,none⟩) (some ⟨Y,0,none⟩) (z.take t) (tg.take t) t t 16 16 AJ.out.symm HTT.out.symm (oM t WE.srcB) (oM t LQ.srcB)).mono ?_
 rintro e w11 ⟨rfl,rfl⟩
 rw[HRR.out]
 refine Ko hK ?_ fun zy=>?_
 ·trivial
 clear hK K
 refine TkS 5 rfl zy ?_
 refine Wd ?_
 clear zy WE LQ
 cases r with
 | false =>
  go_wp2_with fail
  go_ret2
  exact⟨_,by rw[(aW.out.1 HR.out).out];rfl,by rw[(aW.out.1 HR.out).out];exact OwnB.nil _ _,b10⟩
 | true =>
 go_wp2_with fail
 go_ret2
 exact⟨_,by rw[(aW.out.2 HR.out).out];rfl,by rw[(aW.out.2 HR.out).out,HBP.out];exact iV,b10⟩
theorem Yj (g:Int) (w:World):Calls Tryz.prog 30 #[.int .i64 g] w fun e w'=>e=.returned (.int .i64 (qi g:Nat))∧w=w':=by
 by_cases h4:g=10
 ·subst h4;go_enter Tryz.func30,Tryz.ntmps30
  exact jay
 have k4:(g==10)=false:=by simpa using h4
 have t4:=eq_false h4
 by_cases h5:g=30
 ·subst h5;go_enter Tryz.func30,Tryz.ntmps30
  exact jay
 have k5:(g==30)=false:=by simpa using h5
 have t5:=eq_false h5;have e0:=Hh (show qi g=0 by rw[qi,if_neg h4,if_neg h5]);clear h4 h5;go_enter Tryz.func30,Tryz.ntmps30
 go_wp2_with fail
 go_ret
 exact⟨by rw[e0.out];rfl,rfl⟩
theorem cH {H:Snap}(hTab:Tabs H) {p u:Itm}{a b:Ad}(hp:IsItem H a.ba a.bc a.ia a.ic p) (hu:IsItem H b.ba b.bc b.ia b.ic u)
  {EA:Option Addr} {en ec:Nat} {ext:List UInt8} (T9:en=ext.length) (hext:IsBytes H EA ec ext) (wY:ext.length≤1048576) {PA:Option Addr} {pn pc:Nat} {plain:List UInt8} (mq:pn=plain.length) (hplain:IsBytes H PA pc plain)
  {KA:Option Addr} {kn kc:Nat} {key:List UInt8} (ov:kn=key.length) (uI:IsBytes H KA kc key) {NA:Option Addr} {nn nc:Nat} {nonce:List UInt8} (sV:nn=nonce.length) (pB:IsBytes H NA nc nonce) (w:World) (hH:Holds w H) :
  Calls Tryz.prog 11 #[.agg (zA p a u b),.slice EA en ec,.slice PA pn pc,.slice KA kn kc,.slice NA nn nc] w (ESealOut w H p u ext plain key nonce):=by
 have hB:=(Blk.new w 28 (zA p a u b)).alloc (.cells yT 36);have hR:=Blk.new (w.alloc (.cells (zA p a u b) 28)) 36 yT
 simp only[zr]at hR
 obtain⟨hG,UA,HP,HU,HT,HX⟩:=jgl;have HY:=Hh (And.intro mq hplain);have HK:=Hh (And.intro ov uI);have aW:=Hh (And.intro sV pB);have V:=Hh (uU hTab hp hu _ hG.holds);clear hp hu hTab hH T9 hext wY mq hplain ov uI sV pB;obtain⟨c0,c1,c2,c3,c4,c5,c6,c7⟩:=je7;go_enter Tryz.func11,Tryz.ntmps11
 go_wp2_with fail
 refine V.out.mono ?_
 rintro e w2 ⟨rfl,zG⟩
 replace hB:=hB.below zG;replace hR:=hR.below zG;replace hG:=hG.below_ zG;clear V zG c0 c1 c2 c3 c4 c5 c6 c7
 cases hv:zL p u with
 | false =>
  have E:=Hh (show rq p u ext plain key nonce=1 by rw[rq,if_pos hv]);clear hv hB;exact jbA
 | true =>
 have HV:=Hh hv;clear hv;have AL:=Hh (kJ HT.out HP.out HU.out _ hG.holds);obtain⟨c0,c1,c2,c3,c4,c5,c6,c7⟩:=je7;obtain⟨g,hg⟩:∃ g,sR p u=g:=⟨_,rfl⟩
 rw[hg]at AL;have HG:=Hh hg;clear hg;go_wp2_with fail
 refine AL.out.mono ?_
 rintro e w3 ⟨rfl,xj⟩
 replace hB:=hB.below xj;replace hR:=hR.below xj;replace hG:=hG.below_ xj;clear AL xj c0 c1 c2 c3 c4 c5 c6 c7;have TB:=Hh (Yj g w3);have pI:=Tv g;obtain⟨n,hn⟩:∃ n,qi g=n:=⟨_,rfl⟩
 rw[hn]at pI TB;have HN:Hid (qi (sR p u)=n):=by rw[Hid,HG.out,hn]
 clear hn HG;have El:=Hh pI;go_wp2_with fail
 refine TB.out.mono ?_
 rintro e w3' ⟨rfl,rfl⟩
 clear TB
 by_cases h0:n=0
 ·subst h0;have E:=Hh (show rq p u ext plain key nonce=12 by rw[rq,if_neg (by rw[HV.out];simp),if_pos HN.out]);clear hB pI;exact jbA
 have n0:((n:Int)==0)=false:=by rw[beq_eq_false_iff_ne];omega
 have n1:((n:Int)=0)=False:=eq_false (by omega);have N0:=Hh h0;clear h0 pI;obtain⟨c0,c1,c2,c3,c4,c5,c6,c7⟩:=je7;have IN:=Hh (sB (HT.out.mono hG.le) (HP.out.mono hG.le) (HU.out.mono hG.le) ⟨#[69,110,99,114,121,112,116,48]⟩ (by show(8:Nat)≤_;omega) (HX.out.2.1.mono hG.le) HX.out.2.2 (IsRows.nil0 _) (by simp) (fun l hl=>by cases hl) _ hG.holds);rw[← HX.out.1]at IN;go_wp2_with fail
 refine IN.out.mono ?_
 rintro e w5 ⟨r5,l5,rfl,wR,rH⟩
 have Wi:([69,110,99,114,121,112,116,48]:List UInt8)=wa:=rfl
 try simp only[]at rH
 rw[Wi]at rH⊢;clear Wi IN;obtain⟨B5,d5,rfl,tU,_⟩:=wR.own.form;replace hB:=hB.below wR.2;have M9:=hR.lt;replace hR:=hR.below wR.2;clear c0 c1 c2 c3 c4 c5 c6 c7;obtain⟨E5,QL⟩:∃ E,xy wa p u ext []=E:=⟨_,rfl⟩
 rw[QL]at rH⊢;have U6:Hid (xy wa p u ext []=E5):=QL;clear QL
 by_cases hE0:E5=0
 case neg =>
  have e0:(E5 != 0)=true:=by rw[bne_iff_ne];exact hE0
  have e1:=eq_false hE0;have Ly:=hG.below_ wR.2;have DB:=Hh hE0;have Eg:Hid (rq p u ext plain key nonce=E5):=by rw[Hid,Xi HV.out (by rw[HN.out];exact N0.out) (by rw[U6.out];exact hE0),U6.out]
  clear hB wR rH hG hE0 tU;go_wp2_with (with_reducible refine zx ?_)
  refine zv rfl _ _ _ rfl rfl _ _ rfl rfl _ _ hR wZ rfl (uX) fun wz hRz yS=>?_
  have rt:=Ly.grownOwn UA (by omega) yS;clear hR yS;go_wp2_with fail
  refine zp rfl rfl hRz rfl rfl wZ rfl ?_
  exact ESealOut.bad Eg.out DB.out rt rfl
 case pos =>
 subst hE0;rw[if_pos rfl]at rH;obtain⟨H5,wb,dF,ZH⟩:=Fresh.snapB hG.holds wR;have dK:=Hh (And.intro rH tU);have PK:=wb.none UA M9;replace hG:=hG.trans wb;have J7:=Hh dF;have ID:Hid (rq p u ext plain key nonce=(qm key nonce l5 plain n).1):=by rw[Hid,eD HV.out (by rw[HN.out];exact N0.out) U6.out,jp,HN.out,rH]
 have HSR:Hid ((jp p u ext plain key nonce).2=(qm key nonce l5 plain n).2):=by rw[Hid,jp,HN.out,rH]
 have SL:=Hh (N7 (kc:=kc) HK.out.1 (by have:=HK.out.2.le;have:=HK.out.1;omega) (nc:=nc) aW.out.1 (an:=l5.length) (ac:=d5) rfl (by have:=dF.le;omega) (pc:=pc) HY.out.1 (by have:=HY.out.2.le;have:=HY.out.1;omega) n (by have:=El.out;omega) w5
  (Src.of_row (HK.out.2.mono hG.le).row hG.holds) (Src.of_row (aW.out.2.mono hG.le).row hG.holds) (Src.of_row dF.row hG.holds) (Src.of_row (HY.out.2.mono hG.le).row hG.holds))
 have BN:=PK;clear wR rH ZH wb dF M9 tU PK;have HRn:=Hh BN;go_wp2_with fail
 refine SL.out.mono ?_
 rintro e w6 ⟨v6,rfl,Fe,wX⟩
 have qt:Fresh w5 (qm key nonce l5 plain n).2 v6 w6:=⟨Fe,wX⟩
 obtain⟨B6,d6,rfl,vA,_⟩:=OwnB.form Fe;replace hB:=hB.below wX;have M9:=hR.lt;replace hR:=hR.below wX;clear SL Fe;obtain⟨E6,hE6⟩:∃ E,(qm key nonce l5 plain n).1=E:=⟨_,rfl⟩
 obtain⟨s6,EL⟩:∃ s,(qm key nonce l5 plain n).2=s:=⟨_,rfl⟩
 rw[hE6]at ID⊢;rw[EL]at HSR qt vA⊢;clear hE6 EL
 by_cases hE0:E6=0
 case neg =>
  have e0:(E6 != 0)=true:=by rw[bne_iff_ne];exact hE0
  have e1:=eq_false hE0;have hGq:=hG.below_ wX;have Ly:Grows w H w6 H:=⟨hGq.below,Snap.le.refl _,hGq.holds.mono hG.le,fun _ _ h=>.inl h⟩
  have DB:=Hh hE0;clear hB qt hG hE0 vA wX hGq;go_wp2_with (with_reducible refine zx ?_)
  refine zv rfl _ _ _ rfl rfl _ _ rfl rfl _ _ hR wZ rfl (uX) fun wz hRz yS=>?_
  have rt:=Ly.grownOwn UA (by omega) yS;clear hR yS;go_wp2_with fail
  refine zp rfl rfl hRz rfl rfl wZ rfl ?_
  exact ESealOut.bad ID.out DB.out rt rfl
 case pos =>
 subst hE0;obtain⟨H6,xq,hk6,nP⟩:=Fresh.snapB hG.holds qt;have PN:=xq.none HRn.out M9;replace hG:=hG.trans xq;have HB6:=Hh hk6;clear qt nP hk6 xq HRn wX vA;have vv:=yY HV.out;have QH:=Hh vv;clear vv;obtain⟨c0,c1,c2,c3,c4,c5,c6,c7⟩:=je7;obtain⟨n6,nP⟩:∃ n,s6.length=n:=⟨_,rfl⟩
 have HN6:=Hh nP;rw[nP];clear nP;go_wp2_with fail
 refine(ll (HT.out.mono hG.le) QH.out.1 QH.out.2.1 QH.out.2.2.1 QH.out.2.2.2 (HP.out.mono hG.le) (HU.out.mono hG.le) _ hG.holds).mono ?_
 rintro e w7 ⟨v7,rfl,xa,xb,H7,rfl,wJ,hI7,hJ7⟩
 have LP:=wJ.none PN hR.lt;replace hR:=hR.below wJ.below;replace hG:=hG.trans wJ;have Ln:=Hh (And.intro hI7 (And.intro hJ7 (HB6.out.mono wJ.le)));clear hB hI7 hJ7 PN wJ c0 c1 c2 c3 c4 c5 c6 c7;go_wp2_with (with_reducible refine zx ?_)
 refine zv rfl _ _ _ rfl rfl _ _ rfl rfl _ _ hR wZ rfl (OO p u xa xb _ _ _ _ _ _) fun w9 Wa xR=>?_
 have rt:=hG.grownOwn LP (by omega) xR;clear hG hR xR;go_wp2_with fail
 refine zp rfl rfl Wa rfl rfl wZ rfl ?_
 exact ESealOut.good ID.out rt Ln.out.1 Ln.out.2.1 HSR.out HN6.out.symm Ln.out.2.2 rfl
def ql (v:Ev) (ext key nonce:List UInt8):Int×List UInt8 :=
 if zL v.p v.u=false∨0<v.tag.length then(1,[]) else if qi (sR v.p v.u)=0 then(12,[]) else if xy wa v.p v.u ext []≠0 then(xy wa v.p v.u ext [],[])
 else pT key nonce (zZ (xA wa v.p ext [])) v.body (qi (sR v.p v.u))
theorem cG {H:Snap}(hTab:Tabs H) {v:Ev}{a:EvAd}(hv:EvA H v a)
  {EA:Option Addr} {en ec:Nat} {ext:List UInt8} (T9:en=ext.length) (hext:IsBytes H EA ec ext) (wY:ext.length≤1048576)
  {KA:Option Addr} {kn kc:Nat} {key:List UInt8} (ov:kn=key.length) (uI:IsBytes H KA kc key) {NA:Option Addr} {nn nc:Nat} {nonce:List UInt8} (sV:nn=nonce.length) (pB:IsBytes H NA nc nonce) (w:World) (hH:Holds w H) :
  Calls Tryz.prog 15 #[.agg (evQ v a),.slice EA en ec,.slice KA kn kc,.slice NA nn nc] w (lZ w (ql v ext key nonce)):=by
 obtain⟨hB,hG⟩:=jfO;obtain⟨p,u,body,tag⟩:=v;obtain⟨bn,mh⟩:∃ n,body.length=n:=⟨_,rfl⟩
 obtain⟨tn,pI⟩:∃ n,tag.length=n:=⟨_,rfl⟩
 have HN:=Hh (And.intro mh pI);have EQ0:evQ ⟨p,u,body,tag⟩ a=evC p a.a u a.b a.ba bn a.bc a.ta tn a.tc:=by rw[← mh,← pI]
 rw[EQ0]at hB hG⊢;have HT:=Hh hTab;have bx:Hid (IsItem H a.a.ba a.a.bc a.a.ia a.a.ic p∧IsItem H a.b.ba a.b.bc a.b.ia a.b.ic u∧IsBytes H a.ba a.bc body):=⟨hv.p,hv.u,hv.body⟩
 have HX:=Hh (And.intro T9 (And.intro hext wY));have HK:=Hh (And.intro ov uI);have aW:=Hh (And.intro sV pB);have V:=Hh (uU HT.out bx.out.1 bx.out.2.1 _ hG.holds)
 have NO:∀ c:Int,ql ⟨p,u,body,tag⟩ ext key nonce=(c,[])→∀ w',Below w.heap.size w w'→Hid (lZ w (ql ⟨p,u,body,tag⟩ ext key nonce) (.returned (.tuple #[.slice none 0 0,.int .i64 c])) w'):=fun c h w' hb=>by
  rw[h]
  exact⟨_,rfl,OwnB.nil _ _,hb⟩
 have O1:zL p u=false∨0<tn→ql ⟨p,u,body,tag⟩ ext key nonce=(1,[]):=fun h=>by rw[ql,if_pos (by rw[← pI]at h;exact h)]
 have O2:zL p u=true→tn=0→qi (sR p u)=0→ql ⟨p,u,body,tag⟩ ext key nonce=(12,[]):=fun h h0 h1=>by rw[ql,if_neg (by simp[h,pI,h0]),if_pos h1]
 have O3:zL p u=true→tn=0→qi (sR p u)≠0→∀ E,xy wa p u ext []=E→E≠0→ql ⟨p,u,body,tag⟩ ext key nonce=(E,[]):=fun h h0 h1 E h2 h3=>by rw[ql,if_neg (by simp[h,pI,h0]),if_neg h1,if_pos (by rw[h2];exact h3),h2]
 have O4:zL p u=true→tn=0→qi (sR p u)≠0→xy wa p u ext []=0→ql ⟨p,u,body,tag⟩ ext key nonce=pT key nonce (zZ (xA wa p ext [])) body (qi (sR p u)):=fun h h0 h1 h2=>by rw[ql,if_neg (by simp[h,pI,h0]),if_neg h1,if_neg (by rw[h2];simp)]
 have HO:=Hh (And.intro O1 (And.intro O2 (And.intro O3 O4)));have jv:=Hh NO;clear EQ0 hTab hv T9 hext wY ov uI sV pB hH mh pI NO O1 O2 O3 O4;obtain⟨c0,c1,c2,c3,c4,c5,c6,c7⟩:=je7;go_enter Tryz.func15,Tryz.ntmps15
 go_wp2_with fail
 refine V.out.mono ?_
 rintro e w2 ⟨rfl,zG⟩
 replace hB:=hB.below zG;replace hG:=hG.below_ zG;clear V zG c0 c1 c2 c3 c4 c5 c6 c7;have c9:=hB.cell 9 rfl
 cases hvh:zL p u with
 | false =>
  have R:=(jv.out 1 (HO.out.1 (.inl hvh)) _ hG.below)
  clear hvh hB hG;exact jc9
 | true =>
 have HV:=Hh hvh;clear hvh
 by_cases UI:tn=0
 case neg =>
  have t0:(0:Int)<(tn:Int):=by omega
  have R:=(jv.out 1 (HO.out.1 (.inr (by omega))) _ hG.below)
  clear hB hG UI;exact jc9
 case pos =>
 subst UI;have AL:=Hh (kJ (HT.out.mono hG.le) (bx.out.1.mono hG.le) (bx.out.2.1.mono hG.le) _ hG.holds);obtain⟨c0,c1,c2,c3,c4,c5,c6,c7⟩:=je7;obtain⟨g,hg⟩:∃ g,sR p u=g:=⟨_,rfl⟩
 rw[hg]at AL;have HG:=Hh hg;clear hg;go_wp2_with fail
 refine AL.out.mono ?_
 rintro e w3 ⟨rfl,xj⟩
 replace hB:=hB.below xj;replace hG:=hG.below_ xj;clear AL xj c0 c1 c2 c3 c4 c5 c6 c7 c9;have TB:=Hh (Yj g w3);have pI:=Tv g;obtain⟨n,hn⟩:∃ n,qi g=n:=⟨_,rfl⟩
 rw[hn]at pI TB;have HNC:Hid (qi (sR p u)=n):=by rw[Hid,HG.out,hn]
 clear hn HG;have El:=Hh pI;go_wp2_with fail
 refine TB.out.mono ?_
 rintro e w3' ⟨rfl,rfl⟩
 clear TB
 by_cases h0:n=0
 ·subst h0;have R:=(jv.out 12 (HO.out.2.1 HV.out (by trivial) HNC.out) _ hG.below)
  clear hB hG pI;exact jc9
 have n0:((n:Int)==0)=false:=by rw[beq_eq_false_iff_ne];omega
 have n1:((n:Int)=0)=False:=eq_false (by omega);have N0:Hid (qi (sR p u)≠0):=by rw[Hid,HNC.out];exact h0
 clear h0 pI;obtain⟨c0,c1,c2,c3,c4,c5,c6,c7⟩:=je7;have IN:=Hh (sB (HT.out.mono hG.le) (bx.out.1.mono hG.le) (bx.out.2.1.mono hG.le) ⟨#[69,110,99,114,121,112,116,48]⟩ (by show(8:Nat)≤_;omega) (HX.out.2.1.mono hG.le) HX.out.2.2 (IsRows.nil0 _) (by simp) (fun l hl=>by cases hl) _ hG.holds);rw[← HX.out.1]at IN;go_wp2_with fail
 refine IN.out.mono ?_
 rintro e w5 ⟨r5,l5,rfl,wR,rH⟩
 have Wi:([69,110,99,114,121,112,116,48]:List UInt8)=wa:=rfl
 try simp only[]at rH
 rw[Wi]at rH⊢;clear Wi IN;obtain⟨B5,d5,rfl,tU,oe⟩:=wR.own.form;clear oe;replace hB:=hB.below wR.2;clear c0 c1 c2 c3 c4 c5 c6 c7;obtain⟨E5,QL⟩:∃ E,xy wa p u ext []=E:=⟨_,rfl⟩
 rw[QL]at rH⊢;have U6:Hid (xy wa p u ext []=E5):=QL;clear QL
 by_cases hE0:E5=0
 case neg =>
  have e0:(E5 != 0)=true:=by rw[bne_iff_ne];exact hE0
  have e1:=eq_false hE0;have R:=(jv.out E5 (HO.out.2.2.1 HV.out (by trivial) N0.out E5 U6.out hE0) w5 (hG.below_ wR.2).below)
  clear hB wR rH hG hE0 tU;exact jc9
 case pos =>
 subst hE0;rw[if_pos rfl]at rH;obtain⟨H5,wb,dF,oe⟩:=Fresh.snapB hG.holds wR;clear oe;have yw:=hG.le.trans wb.le;replace hG:=hG.trans wb
 have OP:=Hh (N4 (kc:=kc) HK.out.1 (by have:=HK.out.2.le;have:=HK.out.1;omega) (nc:=nc) aW.out.1 (an:=l5.length) (ac:=d5) rfl (by have:=dF.le;omega) (pn:=bn) (pc:=a.bc) HN.out.1.symm (by have:=bx.out.2.2.le;have:=HN.out.1;omega) bx.out.2.2.max n (by have:=El.out;omega) w5
  (Src.of_row (HK.out.2.mono yw).row hG.holds) (Src.of_row (aW.out.2.mono yw).row hG.holds) (Src.of_row dF.row hG.holds) (Src.of_row (bx.out.2.2.mono yw).row hG.holds))
 have HR:Hid (ql ⟨p,u,body,tag⟩ ext key nonce=pT key nonce l5 body n):=by rw[Hid,HO.out.2.2.2 HV.out (by trivial) N0.out U6.out,HNC.out,rH]
 have HBW:=Hh hG.below;have c8:=hB.cell 8 rfl;clear wR rH wb dF yw hG hB tU;go_wp2_with fail
 refine OP.out.mono ?_
 rintro e w6 ⟨v6,rfl,Fe,wX⟩
 have b6:=HBW.out.trans (wX.mono HBW.out.size);have o6:=OwnB.more Fe HBW.out.size;have HO6:=Hh (And.intro o6 b6);clear OP Fe wX o6 b6;go_wp2_with fail
 go_ret2
 exact⟨_,by rw[HR.out];rfl,by rw[HR.out];exact HO6.out.1,HO6.out.2⟩
theorem bL {p u:Itm}(hv:zL p u=true) (hs:szL p≤2000) (np:Nums p) (nu:Nums u) {t:Nat}{alg:Nat}(hg:alg=10∧t=8∨alg=30∧t=16) (ha:AlgIn p u (alg:Int)) {x y key nonce:List UInt8}(hx:x.length≤600) (hy:y.length≤600) (hk:key.length=16) (pm:7≤nonce.length) (hn:nonce.length≤13) :
  rq p u x y key nonce=0∧(∃ C,oW p u x y key nonce=⟨p,u,C,[]⟩∧C.length≤616)∧ql (oW p u x y key nonce) x key nonce=(0,y):=by
 obtain⟨h1,h2,h3,h4⟩:=XO hv hs np nu hg ha hx hy hk pm hn;have Li:t≤16:=by rcases hg with ⟨_,rfl⟩ | ⟨_,rfl⟩ <;> omega
 have UI:t≠0:=by rcases hg with ⟨_,rfl⟩ | ⟨_,rfl⟩ <;> omega
 have hl:=iO key nonce (zZ (xA wa p x [])) y Li
 have ht:qi (sR p u)=t:=by
  rw[Zq hv np nu (k:=alg) (by rcases hg with ⟨rfl,_⟩ | ⟨rfl,_⟩ <;> omega) ha]
  exact jc2
 have hb:=nT h1
 refine⟨h2,⟨_,h3,by omega⟩, ?_⟩
 rw[h3,ql]
 simp only[List.length_nil,Nat.lt_irrefl,or_false,ht]
 rw[if_neg (by rw[hv];simp),if_neg UI,if_neg (by rw[h1];simp),pT]
 have hT:vw key.length nonce.length t=true:=by
  simp only[vw];rcases hg with ⟨_,rfl⟩ | ⟨_,rfl⟩ <;> simp[hk,hn,pm]
 rw[if_neg (by rw[hT];simp),if_neg (by omega),if_neg (by omega),if_neg (by rw[VZ _ _ _ _ Li];simp),ak _ _ _ _ Li]
theorem Qt {p u:Itm}{x y key:List UInt8}(h:qy p u x y key=0):mO (nA p u x y key) x key=0∧nA p u x y key=⟨p,u,y,Z6 p u x y key⟩:=by
 have e:nA p u x y key=⟨p,u,y,Z6 p u x y key⟩:=by rw[nA,if_pos h]
 refine⟨?_,e⟩
 rw[e,mO]
 simp only
 rw[if_pos h]
 simp
end Go.Proofs.YtliomcphdnppnaaGreatDoor
