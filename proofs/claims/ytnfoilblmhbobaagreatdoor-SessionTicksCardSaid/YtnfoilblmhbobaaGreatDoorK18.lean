/- squeezed. Walks: HMAC and the derivation of  -/
import Derived.Test.YtnfoilblmhbobaaGreatDoorK17
import Derived.Laws.CopyOwn
import Derived.Deep.DeepCutAuto
import Derived.Deep.CutBlock
set_option linter.unusedVariables false
set_option linter.unusedSimpArgs false
set_option maxRecDepth 100000
set_option maxHeartbeats 12800000
namespace Go.Proofs.YtnfoilblmhbobaaGreatDoor
open Go.RowKit
theorem qK:(Tryz.prog.info? 5).map (·.size)=some 1:=by kernel_rfl
theorem lG (n:Nat):(madeCells (Value.int .u8 0).cells (n*1)).toList=(List.replicate n (0:UInt8)).map zm:=by
 apply List.ext_getElem?
 intro j
 simp[madeCells,Value.cells,List.getElem?_replicate]
 by_cases h:j<n
 ·simp[h,zm,Nat.mod_one]
 simp[h]
theorem gj {P:Program}{ops:Array Oper}{Q:Exit→Act→World→Prop}{rest:List Oper}{a:Act}{w:World}{dst:Option Tmp}{d s:Operand}{tys:Array TypeId}{T:TypeId}{pos:String}{af:Array Edge}{g:Option (Nat×Bool)}
  (h:zj (wpList P ops Q (⟨dst,.call { callee:=.builtin .copy,args:=#[d,s],argTypes:=tys },T,pos,af,g⟩::rest) a w)):wpList P ops Q (⟨dst,.call { callee:=.builtin .copy,args:=#[d,s],argTypes:=tys },T,pos,af,g⟩::rest) a w:=h
theorem dq {α:Type}(L ns:List α):splice L 0 ns=ns++L.drop ns.length:=by simp[splice]
theorem rn {w:World}{ops:Array Oper}{rest:List Oper}{o:Oper}{a:Act}{Q:Exit→Act→World→Prop}(rl:o.guard=none) (d s:Operand)
  (ho:o.op=.call { callee:=.builtin .copy,args:=#[d,s],argTypes:=#[22,22] })
  (base:Nat) (A':Option Addr) (n' c':Nat) (l:List UInt8) (hd:a.eval d=.slice A' n' c') (xR:OwnB w base (.slice A' n' c') l) (A:Option Addr) (m c:Nat) (news:List UInt8) (hs:a.eval s=.slice A m c) (hm:m=news.length)
  (hr:Src w A (news.map zm)) (iB:news.length≤l.length) (w0:World) (hb:Below base w0 w)
  (h:∀ w',OwnB w' base (.slice A' n' c') (news++l.drop news.length)→Below base w0 w'→wpList Tryz.prog ops Q rest (a.put o.dst (goInt news.length)) w') :
  wpList Tryz.prog ops Q (o::rest) a w:=by
 subst hm
 rcases xR.2 with ⟨hv,hz⟩ | ⟨g,cap,cur,hv,hbse,hg,hc,fK,cJ,ht⟩
 ·cases hv
  have Yi:l=[]:=List.eq_nil_of_length_eq_zero hz;subst Yi;have vz:news=[]:=List.eq_nil_of_length_eq_zero (by simpa using iB);subst vz
  refine wpList_copy_nothing rl d s _ _ ho 5 Tryz.underlying22 qK _ _ _ _ _ _ hd hs (by simp) ?_
  exact h w xR hb
 cases hv
 have sZ:(news.map zm).length=news.length:=by simp
 have hz:cur.toList.length=c':=by rw[Array.length_toList,cJ,Nat.mul_one]
 refine wpList_copy_splice rl d s _ _ ho 5 Tryz.underlying22 qK _ _ _ _ _ _ hd hs g 0 cur.toList 5 (by simpa using hg) (news.map zm) (by rw[sZ];exact(Nat.min_eq_left iB).symm) ?_ (by rw[sZ,hz];omega) (o7 _) base w0 hb hbse ?_
 ·intro hp
  obtain⟨b,off,e,yS⟩:=hr (by intro h0;rw[h0]at hp;simp at hp)
  exact⟨rfl,_,e,fun j v hj=>by rw[um];exact yS j v hj⟩
 intro w' hG hB
 rw[sZ]
 refine h w' ?_ hB
 have hl:(news++l.drop news.length).length=l.length:=by rw[List.length_append,List.length_drop];omega
 refine⟨by simp,.inr ⟨g,c',(splice cur.toList 0 (news.map zm)).toArray,by rw[hl],hbse,hG.out,by rw[hl];exact hc,fK, ?_, ?_⟩⟩
 ·have:=length_splice cur.toList 0 (news.map zm) (by rw[sZ,hz];omega);rw[hz]at this;rw[Nat.mul_one,← this]
  exact List.size_toArray
 rw[hl]
 simp only[List.toList_toArray]
 rw[dq,sZ,Nat.mul_one,List.take_append,sZ,List.take_of_length_le (by rw[sZ];exact iB),List.map_append,List.map_drop];congr 1
 rw[Nat.mul_one]at ht;rw[← ht,List.drop_take]
theorem qD {A:Option Addr}{n c:Nat}{ls:List (List UInt8)}(hn:n=ls.length) (hl:ls.length≤1099511627000) (ht:ls.flatten.length≤1099511627000) (w:World) (hs:SrcR w A ls) :
  Calls Tryz.prog 53 #[.slice A n c] w fun e w'=>∃ r,e=.returned r∧Fresh w (ls.flatten) r w':=by
 have HN:=Hh (And.intro hn (And.intro hl ht));clear hn hl ht;go_enter Tryz.func53,Tryz.ntmps53
 have zK:=OwnB.nil w w.heap.size;have zd:=Below.refl w.heap.size w;go_wp2_with fail
 go_loopw [3,5,8] (fun v1 v5 v2 wr=>∃ (k:Nat) (VA:Option Addr) (vc vn:Nat) (l:List UInt8),k≤ls.length∧v2=.int .i64 (k:Int)∧v1=.slice VA vn vc∧OwnB wr w.heap.size (.slice VA vn vc) l∧vn=l.length∧(ls.flatten=l++(ls.drop k).flatten)∧Below w.heap.size w wr) (fun _ _ v2 _=>ls.length-(intOf v2).toNat)
 case atStart=>exact⟨0,_,_,_,_,Nat.zero_le _,rfl,rfl,zK,rfl,by simp,zd⟩
 case round =>
 clear zK zd;obtain⟨k,VA,vc,vn,l,ku,rfl,rfl,vC,fQ,iy,wU⟩:=hrel;have HV:=Hh fQ;have HE:=Hh iy;clear fQ iy
 by_cases z6:k<ls.length
 ·obtain⟨ib,io,rfl,hr⟩:=hs (by omega);have kE:(k:Int)<(n:Int):=by have:=HN.out.1;omega
  obtain⟨Aj,cj,c0,fN⟩:=hr k z6;have q0:=(wU.cell (World.block_lt_of_cell? w _ c0)).trans c0;have fO:=fN.below wU;have kX:(k:Int)+1≤9223372036854775807:=by have:=HN.out.2.1;omega
  have HT:Hid (l.length+ls[k].length≤1099511627776):=by
   have h1:=congrArg List.length HE.out;rw[yN ls k z6]at h1
   simp only[List.length_append]at h1
   have:=HN.out.2.2;skip
   rw[Hid];omega
  have HF:Hid (ls.flatten=(l++ls[k])++(ls.drop (k+1)).flatten):=by rw[Hid,HE.out,yN ls k z6,List.append_assoc]
  clear hr c0 fN;go_wp2_with (at_builtin;refine zn ?_)
  unfold zj
  obtain rfl:=HV.out
  refine zw rfl (.tmp 12) (.tmp 13) rfl w.heap.size _ _ rfl vC Aj _ cj ls[k] rfl rfl fO HT.out wU.size fun v' w7 wE hg7 hat7=>?_
  obtain⟨VA',vc',rfl,_⟩:=wE.form;have nY:OwnB w7 w.heap.size (.slice VA' (l.length+ls[k].length) vc') (l++ls[k]):=by rw[← List.length_append];exact wE
  have uH:=wU.grown hg7 wU.size (fun q hq=>(vC.lt q hq).1);clear vC hg7 hat7 wU q0 fO wE;go_wp2_with fail
  go_roundw
  case rel=>exact⟨k+1,VA',vc',_,_,by omega,by go_num,rfl,nY,by rw[List.length_append],HF.out,uH⟩
  case measure=>simp[intOf];omega
 have cQ:k=ls.length:=by omega
 subst cQ;have kE:¬ ((ls.length:Int)<(n:Int)):=by have:=HN.out.1;omega
 have HZ:Hid (ls.flatten=l):=by rw[Hid,HE.out,List.drop_length];simp
 go_wp2_with fail
 go_ret
 obtain rfl:=HV.out
 exact⟨_,rfl,by rw[HZ.out];exact⟨vC,wU⟩⟩
theorem jL {A:Option Addr}{c:Nat}{key:List UInt8}{n:Nat}(hn:n=key.length) (yU:key.length≤1099511627) (m:Int) (w:World) (hS:Src w A (key.map zm)) :
  Calls Tryz.prog 66 #[.slice A n c,.int .u8 m] w fun e w'=>∃ r,e=.returned r∧Fresh w (xb m key) r w':=by
 have HN:=Hh (And.intro hn yU);have HS:=Hh hS;have SM:=Hh (sm (c:=c) hn yU w hS);clear hn yU hS;go_enter Tryz.func66,Tryz.ntmps66
 go_upto_if 9 with fail
 go_cut [0] (fun s0 wx=>∃ (A1:Option Addr) (n1 c1:Nat),s0=.slice A1 n1 c1∧Hid (n1=(xF key).length)∧Src wx A1 ((xF key).map zm)∧Below w.heap.size w wx)
 case first =>
  by_cases ag:n≤64
  ·have e:xF key=key:=by rw[xF,if_neg (by have:=HN.out.1;omega)]
   have ZM:¬ ((64:Int)<(n:Int)):=by omega
   go_wp2_with fail
   go_meet
   exact⟨A,n,c,rfl,by rw[Hid,e];exact HN.out.1,by rw[e];exact HS.out,Below.refl _ _⟩
  have e:xF key=vB key:=by rw[xF,if_pos (by have:=HN.out.1;omega)]
  have ZM:(64:Int)<(n:Int):=by omega
  have cY:=Hh e;clear e;go_wp2_with fail
  refine SM.out.mono ?_
  rintro e w1 ⟨r1,rfl,uh⟩
  obtain⟨A1,c1,rfl,ks⟩:=uh.own.form;have xX:=uh.own.src;have zd:=uh.2;clear ks uh;obtain⟨n1,ti⟩:∃ n1,(vB key).length=n1:=⟨_,rfl⟩
  rw[ti];have cZ:=Hh ti;clear ti;go_wp2_with fail
  go_meet
  exact⟨A1,n1,c1,rfl,by rw[Hid,cY.out];exact cZ.out.symm,by rw[cY.out];exact xX,zd⟩
 case rest =>
 clear SM;obtain⟨A1,n1,c1,rfl,cZ,xX,zd⟩:=hcut;have kR:=Hh (rT key);obtain⟨K,hK⟩:∃ K,xF key=K:=⟨_,rfl⟩
 have Rt:Hid (xb m key=(wK K).map (ws m)):=by rw[Hid,xb,hK]
 rw[hK]at cZ kR xX;obtain⟨i0,ot,ko,tB,qn⟩:=info_parts nN;clear hK;go_wp2_with (at_make;refine zn ?_)
 refine wpList_make_full _ rfl _ _ 22 rfl w.heap.size 5 i0 _ 1 Tryz.underlying22 ot ko tB _ _ _ _ 64 rfl rfl (by omega) (by omega) (by rw[qn];omega) (by simp only[maxLen];omega) zd.size fun w2 hO us=>?_
 have zO:=zd.trans ((xj us).mono zd.size);have iD:=xX.below (xj us)
 have vO:OwnB w2 w.heap.size (.slice (some ⟨wc.heap.size,0,none⟩) 64 64) (List.replicate 64 0):=by
  have h:w2.ownsRow w.heap.size 5 1 (.slice (some ⟨wc.heap.size,0,none⟩) 64 64) (List.replicate 64 (0:UInt8)).length ((List.replicate 64 (0:UInt8)).map zm):=by
   rw[List.length_replicate,← lG]
   exact hO
  exact h
 obtain⟨G,hG⟩:∃ G,wc.heap.size=G:=⟨_,rfl⟩
 rw[hG]at vO⊢;clear ot ko tB qn hO us xX zd hG;go_wp2_with (with_reducible refine gj ?_)
 refine rn rfl (.tmp 13) (.tmp 14) rfl w.heap.size _ _ _ _ rfl vO A1 n1 c1 K rfl cZ.out iD (by rw[List.length_replicate];exact kR.out) w zO fun w3 sT yV=>?_
 have iz:K++(List.replicate 64 (0:UInt8)).drop K.length=wK K:=by rw[wK,List.drop_replicate]
 rw[iz,← bO m (wK K)]at sT;have aa:=Hh (rS kR.out);clear vO zO iD iz;go_wp2_with fail
 go_loopw [18] (fun v18 wr=>∃ i:Nat,v18=.int .i64 (i:Int)∧i≤64∧OwnB wr w.heap.size (.slice (some ⟨G,0,none⟩) 64 64) (va m (wK K) i)∧Below w.heap.size w wr) (fun v18 _=>(64-intOf v18).toNat)
 case atStart=>exact⟨0,rfl,by omega,sT,yV⟩
 case round =>
 clear sT yV;obtain⟨i,rfl,hi,hO,hb⟩:=hrel
 by_cases z6:(i:Int)<64
 ·have pS:i<(wK K).length:=by rw[aa.out];omega
  have pN:i<(va m (wK K) i).length:=by rw[oL];exact pS
  have cl:wr.cell? ⟨G,i,none⟩=some (zm (wK K)[i]):=by
   obtain⟨b,off,e,hc⟩:=hO.src (by intro h;have:=congrArg List.length h;rw[List.length_map]at this;simp at this;rw[this]at pN;simp at pN)
   cases e
   have h:=hc i (zm (va m (wK K) i)[i]) (by rw[List.getElem?_map,List.getElem?_eq_getElem pN];rfl);rw[gH m pS,Nat.zero_add]at h
   exact h
  have Te:=Hh (qO m (wK K)[i]);have WG:=Hh (gI m pS);obtain⟨u,hu⟩:∃ u,(wK K)[i]=u:=⟨_,rfl⟩
  rw[hu]at cl Te WG;obtain⟨gq,cur,e,Sd,Th,Wc,XM⟩:=hO.store_ (k:=i) pN
  cases e
  have cf:=Hh XM;clear hu pS pN XM hO;go_wp2_with (with_reducible refine zx ?_)
  refine zv rfl _ _ _ rfl rfl G i (zm (ws m u)) rfl (by rw[Te.out];rfl) _ _ Th qK Wc rfl fun w4 sY hg4=>?_
  have tN:=cf.out w4 (ws m u) sY;rw[WG.out]at tN;have xW:=zu hb hg4 (by rintro q ⟨⟩;exact Sd);clear Th hg4 hb sY cl cf;go_wp2_with fail
  go_roundw
  case rel=>exact⟨i+1,by go_num,by omega,tN,xW⟩
  case measure=>simp[intOf];omega
 obtain rfl:i=64:=by omega
 rw[gG m (by rw[aa.out];exact Nat.le_refl _),← Rt.out]at hO;rw[show((64:Nat):Int)=64 from rfl]at z6⊢;go_wp2_with fail
 go_ret
 exact⟨_,rfl,hO,hb⟩
theorem SrcR.lit2 (w:World) (t:TypeId) {A1 A2:Option Addr}{n1 c1 n2 c2:Nat}{l1 l2:List UInt8}(e1:n1=l1.length) (e2:n2=l2.length) (h1:Src w A1 (l1.map zm)) (h2:Src w A2 (l2.map zm)) :
  SrcR (w.alloc (.cells #[.slice A1 n1 c1,.slice A2 n2 c2] t)) (some ⟨w.heap.size,0,none⟩) [l1,l2]:=fun _=>by
 have hB:=Blk.new w t #[.slice A1 n1 c1,.slice A2 n2 c2]
 refine⟨w.heap.size,0,rfl,fun j hj=>?_⟩
 subst e1 e2
 match j,hj with
 | 0,_=>exact⟨A1,c1,hB.cell 0 rfl,h1.alloc _⟩
 | 1,_=>exact⟨A2,c2,hB.cell 1 rfl,h2.alloc _⟩
theorem SrcR.lit3 (w:World) (t:TypeId) {A1 A2 A3:Option Addr}{n1 c1 n2 c2 n3 c3:Nat}{l1 l2 l3:List UInt8}(e1:n1=l1.length) (e2:n2=l2.length) (e3:n3=l3.length) (h1:Src w A1 (l1.map zm)) (h2:Src w A2 (l2.map zm)) (h3:Src w A3 (l3.map zm)) :
  SrcR (w.alloc (.cells #[.slice A1 n1 c1,.slice A2 n2 c2,.slice A3 n3 c3] t)) (some ⟨w.heap.size,0,none⟩) [l1,l2,l3]:=fun _=>by
 have hB:=Blk.new w t #[.slice A1 n1 c1,.slice A2 n2 c2,.slice A3 n3 c3]
 refine⟨w.heap.size,0,rfl,fun j hj=>?_⟩
 subst e1 e2 e3
 match j,hj with
 | 0,_=>exact⟨A1,c1,hB.cell 0 rfl,h1.alloc _⟩
 | 1,_=>exact⟨A2,c2,hB.cell 1 rfl,h2.alloc _⟩
 | 2,_=>exact⟨A3,c3,hB.cell 2 rfl,h3.alloc _⟩
theorem dO {A:Option Addr}{c:Nat}{key:List UInt8}{n:Nat}(hn:n=key.length) (yU:key.length≤1099511627) {B:Option Addr}{d:Nat}{b:List UInt8}{k:Nat}(hk:k=b.length) (hmb:b.length≤1099511000) (w:World) (hS:Src w A (key.map zm)) (hT:Src w B (b.map zm)) :
  Calls Tryz.prog 52 #[.slice A n c,.slice B k d] w fun e w'=>∃ r,e=.returned r∧Fresh w (sM key b) r w':=by
 have HN:=Hh (And.intro hn (And.intro hk hmb));have HS:=Hh hS;have HT:=Hh hT;have M1:=Hh (fun(m:Int) w (hS:Src w A (key.map zm))=>jL (c:=c) hn yU m w hS);clear hn yU hk hmb hS hT;go_enter Tryz.func52,Tryz.ntmps52
 go_wp2_with fail
 refine(M1.out 92 _ HS.out).mono ?_
 rintro e w1 ⟨r1,rfl,uh⟩
 obtain⟨A1,c1,rfl,_⟩:=uh.own.form;rw[yF];have zd:=uh.2;have xX:=uh.own.src;clear uh;go_wp2_with fail
 refine(M1.out 54 _ (HS.out.below zd)).mono ?_
 rintro e w2 ⟨r2,rfl,rC⟩
 obtain⟨A2,c2,rfl,_⟩:=rC.own.form;rw[yF];have zO:=zd.trans (rC.2.mono zd.size);have XL:=xX.below rC.2;have rh:=SrcR.lit2 (c1:=c2) (c2:=d) w2 22 (yF 54 key).symm HN.out.2.1 rC.own.src (HT.out.below zO);have yV:=zO.alloc zO.size (.cells #[.slice A2 64 c2,.slice B k d] 22);have Zj:=XL.alloc (.cells #[.slice A2 64 c2,.slice B k d] 22);obtain⟨P,hP⟩:∃ P,w2.heap.size=P:=⟨_,rfl⟩
 rw[hP]at rh;have HP:=Hh hP;obtain⟨w3,iE⟩:∃ w3,w2.alloc (.cells #[.slice A2 64 c2,.slice B k d] 22)=w3:=⟨_,rfl⟩
 rw[iE]at rh yV Zj;have bw:=Hh iE;have JN:=Hh (qD (n:=2) (c:=2) rfl (by simp) (by simp[yF];have:=HN.out.2.2;omega) w3 rh);clear hP iE rh xX XL zd zO rC M1;go_wp2_with fail
 rw[bw.out,HP.out]
 refine JN.out.mono ?_
 rintro e w4 ⟨r4,rfl,qd⟩
 rw[show [xb 54 key,b].flatten=xb 54 key++b by simp]at qd;have ad:Hid ((xb 54 key++b).length≤1099511627):=by rw[Hid,List.length_append,yF];have:=HN.out.2.2;omega
 obtain⟨I,hI⟩:∃ I,xb 54 key++b=I:=⟨_,rfl⟩
 have HI:=Hh hI;rw[hI]at qd ad;obtain⟨A4,c4,rfl,_⟩:=qd.own.form;obtain⟨m4,Yj⟩:∃ m,I.length=m:=⟨_,rfl⟩
 rw[Yj];have SM:=Hh (sm (c:=c4) Yj.symm ad.out w4 qd.own.src);have xW:=yV.trans (qd.2.mono yV.size);have UA:=Zj.below qd.2;clear hI Yj qd yV Zj JN;go_wp2_with fail
 refine SM.out.mono ?_
 rintro e w5 ⟨r5,rfl,xT⟩
 obtain⟨A5,c5,rfl,_⟩:=xT.own.form;rw[xU];have yv:=xW.trans (xT.2.mono xW.size);have au:=UA.below xT.2;have dA:=SrcR.lit2 (c1:=c1) (c2:=c5) w5 22 (yF 92 key).symm (xU I).symm au xT.own.src;have wT:=yv.alloc yv.size (.cells #[.slice A1 64 c1,.slice A5 32 c5] 22);obtain⟨P5,VL⟩:∃ P,w5.heap.size=P:=⟨_,rfl⟩
 rw[VL]at dA;have Ru:=Hh VL;obtain⟨w6,kj⟩:∃ w6,w5.alloc (.cells #[.slice A1 64 c1,.slice A5 32 c5] 22)=w6:=⟨_,rfl⟩
 rw[kj]at dA wT;have Xh:=Hh kj;have JN:=Hh (qD (n:=2) (c:=2) rfl (by simp) (by simp[yF,xU]) w6 dA);clear VL kj dA UA au xW yv xT SM;go_wp2_with fail
 rw[Xh.out,Ru.out]
 refine JN.out.mono ?_
 rintro e w7 ⟨r7,rfl,Yf⟩
 rw[show [xb 92 key,vB I].flatten=xb 92 key++vB I by simp]at Yf;obtain⟨O,hO⟩:∃ O,xb 92 key++vB I=O:=⟨_,rfl⟩
 have HO:Hid (vB O=sM key b∧O.length=96):=by
  rw[Hid,← hO]
  refine⟨by rw[sM,← HI.out],by rw[List.length_append,yF,xU]⟩
 rw[hO]at Yf;obtain⟨A7,c7,rfl,_⟩:=Yf.own.form;rw[HO.out.2];have SM:=Hh (sm (c:=c7) (n:=96) HO.out.2.symm (by rw[HO.out.2];omega) w7 Yf.own.src);have uH:=wT.trans (Yf.2.mono wT.size);clear hO Yf wT JN;go_wp2_with fail
 refine SM.out.mono ?_
 rintro e w8 ⟨r8,rfl,aF⟩
 have ho:=aF.own.more (base':=w.heap.size) uH.size;have rf:=uH.trans (aF.2.mono uH.size);clear aF uH SM;go_wp2_with fail
 go_ret
 exact⟨_,rfl,by rw[← HO.out.1];exact⟨ho,rf⟩⟩
def dx (w:World) (H:Snap) (prk info:List UInt8) (n:Nat) (e:Ending) (w':World):Prop:=∃ A c H',e=.returned (.tuple #[.slice A n c,.int .i64 0])∧Grows w H w' H'∧IsBytes H' A c (uS prk info n)
theorem oG {prk info:List UInt8}{n j:Nat}(h1:n≤32*j) (h2:32*j<n+32):(uF prk info j).take n=uS prk info n:=by
 rw[uS,show(n+31)/32=j by omega]
theorem mN (k:Nat) (h:k<256):zm (UInt8.ofNat k)=.int .u8 (k:Int):=by
 rw[zm,UInt8.toNat_ofNat_of_lt' (by simpa using h)]
theorem jK {A:Option Addr}{c:Nat}{prk:List UInt8}{np:Nat}(hn:np=prk.length) (yU:prk.length≤1099511627) {B:Option Addr}{d:Nat}{info:List UInt8}{ni:Nat}(hk:ni=info.length) (hmb:info.length≤1099510000) (n:Nat) (ow:n≤8160) {H:Snap}(w:World) (hH:Holds w H) (hS:Src w A (prk.map zm)) (hT:Src w B (info.map zm)) :
  Calls Tryz.prog 40 #[.slice A np c,.slice B ni d,.int .i64 (n:Int)] w (dx w H prk info n):=by
 have HN:=Hh (And.intro hn (And.intro hk (And.intro hmb ow)));have HS:=Hh hS;have HT:=Hh hT;have HM:=Hh (fun(B':Option Addr) (d':Nat) (b:List UInt8) (k:Nat) (hk:k=b.length) (hmb:b.length≤1099511000) (w:World) (hS:Src w A (prk.map zm)) (hT:Src w B' (b.map zm))=>dO (c:=c) (d:=d') hn yU hk hmb w hS hT);have n1:¬ ((n:Int)<0):=by omega
 have n2:¬ ((8160:Int)<(n:Int)):=by omega
 have iq:=Grows.refl hH;clear hn yU hk hmb ow hS hT hH;go_enter Tryz.func40,Tryz.ntmps40
 go_wp2_with fail
 go_loopw [8,9,10] (fun v8 v9 v10 wr=>∃ (j no nt oc tc:Nat) (OA TA:Option Addr) (Hr:Snap),v8=.slice OA no oc∧v9=.slice TA nt tc∧v10=.int .i64 ((j:Int)+1)∧Hid (no=32*j∧32*j<n+32∧nt=(xK prk info j).length)∧OwnB wr w.heap.size (.slice OA no oc) (uF prk info j)∧Hid (∀ q,(Value.slice OA no oc).ownBlock=some q→Hr q=none)∧Hid (IsBytes Hr TA tc (xK prk info j))∧Grows w H wr Hr) (fun _ _ v10 _=>300-(intOf v10).toNat)
 case atStart=>exact⟨0,0,0,0,0,none,none,H,rfl,rfl,rfl,⟨rfl,by omega,rfl⟩,OwnB.nil _ _,(fun q hq=>by cases hq),IsBytes.nil _,iq⟩
 case round =>
 clear iq;obtain⟨j,no,nt,oc,tc,OA,TA,Hr,rfl,rfl,rfl,HJ,hO,HO,V0,hG⟩:=hrel
 by_cases z6:(no:Int)<(n:Int)
 ·have Sm:(j:Int)+1<256:=by have:=HJ.out;have:=HN.out;omega
  have wC:Hid (32*(j+1)<n+32):=by have:=HJ.out.1;rw[Hid];omega
  have il:Hid ((uF prk info j).length≤8192):=by have:=HJ.out;have:=HN.out;rw[Hid,wI];omega
  have K1:IntKind.u8.wrap ((j:Int)+1)=(j:Int)+1:=IntWalk.u8_in _ (by omega);have hb:=hG.below
  have rh:=SrcR.lit3 (n1:=nt) (c1:=tc) (n2:=ni) (c2:=d) (n3:=1) (c3:=1) (wr.alloc (.cells #[.int .u8 ((j:Int)+1)] 5)) 22 HJ.out.2.2 HN.out.2.1 (l3:=[UInt8.ofNat (j+1)]) rfl
   ((Src.of_row V0.out.row hG.holds).alloc _) ((HT.out.below hb).alloc _) (Src.new wr #[.int .u8 ((j:Int)+1)] 5 wr.heap.size rfl _ (by simp only[List.map_cons,List.map_nil];rw[mN (j+1) (by omega),Int.natCast_add];rfl))
  have yw:=(hG.alloc (.cells #[.int .u8 ((j:Int)+1)] 5)).alloc (.cells #[.slice TA nt tc,.slice B ni d,.slice (some ⟨wr.heap.size,0,none⟩) 1 1] 22);have vO:=(hO.alloc (.cells #[.int .u8 ((j:Int)+1)] 5)).alloc (.cells #[.slice TA nt tc,.slice B ni d,.slice (some ⟨wr.heap.size,0,none⟩) 1 1] 22);obtain⟨P0,cB⟩:∃ P,wr.heap.size=P:=⟨_,rfl⟩
  obtain⟨w1,vT⟩:∃ w1,wr.alloc (.cells #[.int .u8 ((j:Int)+1)] 5)=w1:=⟨_,rfl⟩
  rw[cB,vT]at rh yw vO;have mj:w1.heap.size=P0+1:=by rw[← vT,zY,cB]
  obtain⟨w2,tR⟩:∃ w2,w1.alloc (.cells #[.slice TA nt tc,.slice B ni d,.slice (some ⟨P0,0,none⟩) 1 1] 22)=w2:=⟨_,rfl⟩
  rw[tR]at rh yw vO;rw[mj]at rh;have HW:=Hh (And.intro cB (And.intro vT tR));have JN:=Hh (qD (n:=3) (c:=3) rfl (by simp) (by have h1:=s9 prk info j;have h2:=HN.out.2.2.1;simp;omega) w2 rh);clear cB vT mj tR rh hG hO hb;go_wp2_with fail
  rw[HW.out.1,HW.out.2.1,HW.out.2.2]
  refine JN.out.mono ?_
  rintro e w3 ⟨r3,rfl,rk⟩
  have ad:Hid ([xK prk info j,info,[UInt8.ofNat (j+1)]].flatten.length≤1099511000):=by have h1:=s9 prk info j;have h2:=HN.out.2.2.1;rw[Hid];simp;omega
  have ik:Hid (sM prk [xK prk info j,info,[UInt8.ofNat (j+1)]].flatten=xK prk info (j+1)):=by rw[Hid];simp[xK]
  obtain⟨I,hI⟩:∃ I,[xK prk info j,info,[UInt8.ofNat (j+1)]].flatten=I:=⟨_,rfl⟩
  rw[hI]at rk ad ik;obtain⟨A3,c3,rfl,_⟩:=rk.own.form;obtain⟨m3,kY⟩:∃ m,I.length=m:=⟨_,rfl⟩
  rw[kY];have yt:=yw.below_ rk.2;have sT:=vO.below rk.2;have sX:=Hh (HM.out _ c3 _ _ kY.symm ad.out w3 (HS.out.below yt.below) rk.own.src);clear hI kY rk yw vO JN;go_wp2_with fail
  refine sX.out.mono ?_
  rintro e w4 ⟨r4,rfl,qd⟩
  rw[ik.out]at qd;have tN:=sT.below qd.2;obtain⟨A4,c4,rfl,_⟩:=qd.own.form;obtain⟨H4,xm,xW,_⟩:=Fresh.snapB yt.holds qd;have xv:=yt.trans xm;have Xa:Hid (∀ q,(Value.slice OA no oc).ownBlock=some q→H4 q=none):=fun q hq=>xm.none (HO.out q hq) (sT.lt q hq).2
  have ms:(xK prk info (j+1)).length=32:=by rw[xK,vj]
  rw[ms];have bp:=Hh xW;clear yt xm xW qd sT sX;go_wp2_with (at_builtin;refine zn ?_)
  refine zw rfl (.tmp 32) (.tmp 33) rfl w.heap.size (.slice OA no oc) _ rfl tN A4 32 c4 (xK prk info (j+1)) rfl ms.symm (Src.of_row bp.out.row xv.holds) (by have:=il.out;rw[ms];omega) xv.below.size fun v' w5 zV hg5 hat5=>?_
  rw[show uF prk info j++xK prk info (j+1)=uF prk info (j+1) from rfl]at zV;obtain⟨A5,c5,rfl,_⟩:=zV.form
  have yC:Grows w H w5 H4:=by
   refine⟨zu xv.below hg5 (fun q hq=>(tN.lt q hq).1),xv.le,xv.holds.grown hg5 (fun q hq=>Xa.out q hq),xv.fresh⟩
  rw[wI]at zV hat5⊢
  have Xb:Hid (∀ q,(Value.slice A5 (32*(j+1)) c5).ownBlock=some q→H4 q=none):=fun q hq=>by
   rcases hat5 with h | ⟨g',h1,h2⟩
   ·exact Xa.out q (by rw[← h,hq])
   rw[hq]at h1;injection h1 with h1
   subst h1
   exact xv.holds.none_of_ge h2
  clear tN hg5 hat5 xv K1 ms;have ap:IntKind.i64.wrap ((j:Int)+1+1)=(j:Int)+1+1:=IntWalk.i64_in _ (by omega);obtain⟨no',kK⟩:∃ x,32*(j+1)=x:=⟨_,rfl⟩
  have Zr:=Hh kK;rw[kK]at zV Xb⊢;clear kK;go_wp2_with fail
  go_roundw
  case rel=>exact⟨j+1,no',32,c5,c4,A5,A4,H4,rfl,rfl,by go_num,⟨Zr.out.symm,wC.out,by rw[xK,vj]⟩,zV,Xb,bp,yC⟩
  case measure=>have:=wC.out;have:=HN.out;simp[intOf];omega
 have cf:Hid ((uF prk info j).take n=uS prk info n):=oG (by have:=HJ.out.1;omega) HJ.out.2.1;have fc:=wI prk info j;have sZ:n≤(uF prk info j).length:=by rw[fc];have:=HJ.out.1;omega
 obtain⟨H6,Y8,Y5,fG,_,wT⟩:=hO.snap hG.holds (fun q hq=>HO.out q (by cases OA with | none=>cases hq | some p=>exact hq));have Yl:=wT.le;have Uf:(n:Int)≤(oc:Int):=by omega
 have HR:Hid (∃ A' c',A'=A'∧c'=c'):=⟨0,0,rfl,rfl⟩
 have yC:Grows w H wr H6:=⟨hG.below,hG.le.trans Y8,Y5,fun q o hq=>by
  rcases fG q o hq with h | h
  ·exact hG.fresh q o h
  exact .inr (hO.lt q (by cases OA with | none=>cases h | some p=>exact h)).1⟩
 have Ul:=Hh (wT.take' n);have TD:=Hh wT.max;clear hO hG Y8 Y5 fG fc Yl sZ wT HR;go_wp2_with fail
 go_ret2
 refine⟨_,_,H6,rfl,yC, ?_⟩
 rw[← cf.out]
 exact⟨by rw[List.length_take];omega,by have:=TD.out;omega,Ul.out.row⟩
def vy (r:Rn) (n:Int):Rn×List UInt8 :=
 if r.role≠1∨(r.phase≠1∧r.phase≠3)∨n<r.due then(r,[])
 else if 4<r.count then({ r with phase:=5 },[])
 else({ r with due:=n+2*2 ^ r.count.toNat,count:=r.count+1 },r.sent)
theorem pz {r:Rn}{n:Int}(h:r.role≠1∨(r.phase≠1∧r.phase≠3)∨n<r.due):vy r n=(r,[]):=by rw[vy,if_pos h]
theorem py {r:Rn}{n:Int}(h1:r.role=1) (h2:r.phase=1∨r.phase=3) (h3:¬ n<r.due) (h4:4<r.count):vy r n=({ r with phase:=5 },[]):=by rw[vy,if_neg (by omega),if_pos h4]
theorem so {r:Rn}{n:Int}(h1:r.role=1) (h2:r.phase=1∨r.phase=3) (h3:¬ n<r.due) (h4:¬ 4<r.count):vy r n=({ r with due:=n+2*2 ^ r.count.toNat,count:=r.count+1 },r.sent):=by rw[vy,if_neg (by omega),if_neg h4]
def uD (label:Nat) (ctx:List UInt8) (n:Nat):List UInt8:=t7 label++sR ctx++t7 n
def gw (prk:List UInt8) (label:Nat) (ctx:List UInt8) (n:Nat):List UInt8:=uS prk (uD label ctx n) n
def yT (out:List UInt8) (label:Nat) (ctx:List UInt8) (n:Nat):List UInt8:=gw (gw out 10 [] 32) label ctx n
structure Inp where
 secret:List UInt8
 salt:List UInt8
 has:Bool
 ctx:List UInt8
 sender:List UInt8
 recip:List UInt8
structure InpA where
 secret:Sl
 salt:Sl
 ctx:Sl
 sender:Sl
 recip:Sl
abbrev tK (x:Inp) (a:InpA):Array Value :=
 #[.slice a.secret.a x.secret.length a.secret.c,.slice a.salt.a x.salt.length a.salt.c,.bool x.has,.slice a.ctx.a x.ctx.length a.ctx.c,.slice a.sender.a x.sender.length a.sender.c,.slice a.recip.a x.recip.length a.recip.c]
structure IsInp (H:Snap) (x:Inp) (a:InpA):Prop where
 secret:IsBytes H a.secret.a a.secret.c x.secret
 salt:IsBytes H a.salt.a a.salt.c x.salt
 ctx:IsBytes H a.ctx.a a.ctx.c x.ctx
 sender:IsBytes H a.sender.a a.sender.c x.sender
 recip:IsBytes H a.recip.a a.recip.c x.recip
theorem IsInp.mono {H K:Snap}{x:Inp}{a:InpA}(h:IsInp H x a) (hl:H.le K):IsInp K x a:=⟨h.secret.mono hl,h.salt.mono hl,h.ctx.mono hl,h.sender.mono hl,h.recip.mono hl⟩
structure Inp.Small (x:Inp):Prop where
 secret:x.secret.length≤1099511
 salt:x.salt.length≤1099511
 ctx:x.ctx.length≤1099511
 sender:x.sender.length≤1099511
 recip:x.recip.length≤1099511
def tz:Inp:=⟨[],[],false,[],[],[]⟩
def iQ:InpA:=⟨⟨none,0⟩,⟨none,0⟩,⟨none,0⟩,⟨none,0⟩,⟨none,0⟩⟩
theorem gA (H:Snap):IsInp H tz iQ:=⟨IsBytes.nil _,IsBytes.nil _,IsBytes.nil _,IsBytes.nil _,IsBytes.nil _⟩
def xD (r:Rn):Inp×Int :=
 if r.phase≠4 then(tz,15) else(⟨yT r.out 0 [] 16,yT r.out 1 [] 8,false,[],r.other,r.mine⟩,0)
theorem tt (prk:List UInt8) (label:Nat) (ctx:List UInt8) (n:Nat):(gw prk label ctx n).length=n:=by
 rw[gw,uS,List.length_take,wI]
 omega
theorem ut (out:List UInt8) (label:Nat) (ctx:List UInt8) (n:Nat):(yT out label ctx n).length=n:=tt ..
theorem sA (n:Nat):t7 (n:Int)=zW 0 n:=by rw[t7,if_neg (by omega),Int.toNat_natCast]
theorem fu (label:Nat) (ctx:List UInt8) (n:Nat):[zW 0 label,sR ctx,zW 0 n].flatten=uD label ctx n:=by
 rw[uD,sA,sA]
 simp
theorem ft (label:Nat) (ctx:List UInt8) (n:Nat):[t7 label,sR ctx,t7 n].flatten=uD label ctx n:=by
 rw[uD]
 simp
theorem oA (label:Nat) (ctx:List UInt8) (n:Nat):(uD label ctx n).length≤ctx.length+27:=by
 rw[uD,sA,sA,sR,List.length_append,List.length_append,List.length_append];have h1:=(yZ 0 label).2;have h2:=(yZ 0 n).2;have h3:=(yZ 2 ctx.length).2
 omega
theorem pD {r:Rn}(h:r.Small):(xD r).1.Small:=by
 rw[xD]
 split
 ·exact⟨by simp[tz],by simp[tz],by simp[tz],by simp[tz],by simp[tz]⟩
 exact⟨by simp[ut],by simp[ut],by simp,h.other,h.mine⟩
theorem ld {r:Rn}(h:r.Small) (n:Int):(vy r n).1.Small∧(vy r n).2.length≤1099511:=by
 rw[vy]
 split
 ·exact⟨h,by simp⟩
 split
 ·exact⟨⟨h.p,h.mine,h.other,h.priv,h.gx,h.gy,h.h1,h.th,h.prk,h.peer,h.out,h.heard,h.sent,h.refused⟩,by simp⟩
 exact⟨⟨h.p,h.mine,h.other,h.priv,h.gx,h.gy,h.h1,h.th,h.prk,h.peer,h.out,h.heard,h.sent,h.refused⟩,h.sent⟩
abbrev ng (p:Pty) (a:PtyA):Array Value :=
 #[.int .i64 p.kty,.int .i64 p.crv,.int .i64 p.alg,.slice a.kid.a p.kid.length a.kid.c,.slice a.kx.a p.kx.length a.kx.c,.slice a.kd.a p.kd.length a.kd.c,.slice a.kk.a p.kk.length a.kk.c]
theorem pB {H:Snap}{v:Pty}{a b:PtyA}(ha:IsPty H v a) (hb:IsPty H v b) (hs:v.Small) (w:World) (hH:Holds w H) :
  Calls Tryz.prog 30 #[.agg (ng v a),.agg (ng v b)] w fun e w'=>e=.returned (.bool true)∧Below w.heap.size w w':=by
 have hX:=(Blk.new w 25 (ng v a)).alloc (.cells (ng v b) 25);have hY:=Blk.new (w.alloc (.cells (ng v a) 25)) 25 (ng v b);rw[zY]at hY;have yY:=(zb w (.cells (ng v a) 25)).alloc (zb w (.cells (ng v a) 25)).size (.cells (ng v b) 25);have HH:=Hh (fun wx (h:Below w.heap.size w wx)=>(hH.below h (Nat.le_refl _):Holds wx H));have HA:=Hh ha;have HB:=Hh hb;have HS:=Hh hs;clear ha hb hs hH;obtain⟨fkty1,fkty2,fkty3⟩:=yO v.kty;obtain⟨fcrv1,fcrv2,fcrv3⟩:=yO v.crv;obtain⟨falg1,falg2,falg3⟩:=yO v.alg;have x0:=hX.cell 0 rfl;have y0:=hY.cell 0 rfl;have x1:=hX.cell 1 rfl;have y1:=hY.cell 1 rfl;have x2:=hX.cell 2 rfl;have y2:=hY.cell 2 rfl;have x3:=hX.cell 3 rfl;have y3:=hY.cell 3 rfl;go_enter Tryz.func30,Tryz.ntmps30
 go_wp2_with fail
 refine(xr _ (HH.out _ yY) rfl rfl (by have:=HS.out.kid;omega) HA.out.kid HB.out.kid).mono ?_
 rintro e w1 ⟨rfl,ri⟩
 replace hX:=hX.below ri;replace hY:=hY.below ri;have zd:=yY.trans (ri.mono yY.size);clear ri yY x0 y0 x1 y1 x2 y2 x3 y3;have x4:=hX.cell 4 rfl;have y4:=hY.cell 4 rfl;go_wp2_with fail
 refine(xr _ (HH.out _ zd) rfl rfl (by have:=HS.out.kx;omega) HA.out.kx HB.out.kx).mono ?_
 rintro e w2 ⟨rfl,tg⟩
 replace hX:=hX.below tg;replace hY:=hY.below tg;have zO:=zd.trans (tg.mono zd.size);clear tg zd x4 y4;have x5:=hX.cell 5 rfl;have y5:=hY.cell 5 rfl;go_wp2_with fail
 refine(xr _ (HH.out _ zO) rfl rfl (by have:=HS.out.kd;omega) HA.out.kd HB.out.kd).mono ?_
 rintro e w3 ⟨rfl,iu⟩
 replace hX:=hX.below iu;replace hY:=hY.below iu;have yV:=zO.trans (iu.mono zO.size);clear iu zO x5 y5;have x6:=hX.cell 6 rfl;have y6:=hY.cell 6 rfl;go_wp2_with fail
 refine(xr _ (HH.out _ yV) rfl rfl (by have:=HS.out.kk;omega) HA.out.kk HB.out.kk).mono ?_
 rintro e w4 ⟨rfl,iv⟩
 replace hX:=hX.below iv;replace hY:=hY.below iv;have xW:=yV.trans (iv.mono yV.size);clear iv yV x6 y6;go_wp2_with fail
 go_ret
 exact⟨rfl,xW⟩
theorem qo {H:Snap}{v:Pty}{a b:PtyA}(ha:IsPty H v a) (hb:IsPty H v b) (hs:v.Small) (w:World) (hH:Holds w H) :
  Calls Tryz.prog 21 #[.agg (ptC v a),.agg (ptC v b)] w fun e w'=>e=.returned (.bool true)∧Below w.heap.size w w':=by
 have hX:=(Blk.new w 32 (ptC v a)).alloc (.cells (ptC v b) 32);have hY:=Blk.new (w.alloc (.cells (ptC v a) 32)) 32 (ptC v b);rw[zY]at hY;have yY:=(zb w (.cells (ptC v a) 32)).alloc (zb w (.cells (ptC v a) 32)).size (.cells (ptC v b) 32);have HH:=Hh (fun wx (h:Below w.heap.size w wx)=>(hH.below h (Nat.le_refl _):Holds wx H));have HA:=Hh ha;have HB:=Hh hb;have HS:=Hh hs;clear ha hb hs hH;obtain⟨f1,f2,f3⟩:=yO v.ref;have x0:=hX.cell 0 rfl;have y0:=hY.cell 0 rfl;go_enter Tryz.func21,Tryz.ntmps21
 go_wp2_with fail
 refine(xr _ (HH.out _ yY) rfl rfl (by have:=HS.out.cred;omega) HA.out.cred HB.out.cred).mono ?_
 rintro e w1 ⟨rfl,ri⟩
 replace hX:=hX.below ri;replace hY:=hY.below ri;have zd:=yY.trans (ri.mono yY.size);clear ri yY x0 y0;have x1:=hX.cell 1 rfl;have y1:=hY.cell 1 rfl;have x2:=hX.cell 2 rfl;have y2:=hY.cell 2 rfl;go_wp2_with fail
 refine(xS HA.out.chain HB.out.chain rfl rfl HS.out.chain _ (HH.out _ zd)).mono ?_
 rintro e w2 ⟨rfl,tg⟩
 replace hX:=hX.below tg;replace hY:=hY.below tg;have zO:=zd.trans (tg.mono zd.size);clear tg zd x1 y1 x2 y2;have x3:=hX.cell 3 rfl;have y3:=hY.cell 3 rfl;have x4:=hX.cell 4 rfl;have y4:=hY.cell 4 rfl;have x5:=hX.cell 5 rfl;have y5:=hY.cell 5 rfl;have x6:=hX.cell 6 rfl;have y6:=hY.cell 6 rfl;have x7:=hX.cell 7 rfl;have y7:=hY.cell 7 rfl;have x8:=hX.cell 8 rfl;have y8:=hY.cell 8 rfl;have x9:=hX.cell 9 rfl;have y9:=hY.cell 9 rfl;go_wp2_with fail
 refine(pB HA.out HB.out HS.out _ (HH.out _ zO)).mono ?_
 rintro e w3 ⟨rfl,iu⟩
 replace hX:=hX.below iu;replace hY:=hY.below iu;have yV:=zO.trans (iu.mono zO.size);clear iu zO x3 y3 x4 y4 x5 y5 x6 y6 x7 y7 x8 y8 x9 y9;have x10:=hX.cell 10 rfl;have y10:=hY.cell 10 rfl;go_wp2_with fail
 refine(tk HA.out.suites HB.out.suites rfl rfl HS.out.suites _ (HH.out _ yV)).mono ?_
 rintro e w4 ⟨rfl,iv⟩
 replace hX:=hX.below iv;replace hY:=hY.below iv;have xW:=yV.trans (iv.mono yV.size);clear iv yV x10 y10;have x11:=hX.cell 11 rfl;have y11:=hY.cell 11 rfl;go_wp2_with fail
 refine(xS HA.out.known HB.out.known rfl rfl HS.out.known _ (HH.out _ xW)).mono ?_
 rintro e w5 ⟨rfl,i9⟩
 replace hX:=hX.below i9;replace hY:=hY.below i9;have yv:=xW.trans (i9.mono xW.size);clear i9 xW x11 y11;have x12:=hX.cell 12 rfl;have y12:=hY.cell 12 rfl;go_wp2_with fail
 refine(xS HA.out.anchors HB.out.anchors rfl rfl HS.out.anchors _ (HH.out _ yv)).mono ?_
 rintro e w6 ⟨rfl,Y3⟩
 replace hX:=hX.below Y3;replace hY:=hY.below Y3;have wT:=yv.trans (Y3.mono yv.size);clear Y3 yv x12 y12;go_wp2_with fail
 go_ret
 exact⟨rfl,wT⟩
theorem qp {H:Snap}{v:Inp}{a b:InpA}(ha:IsInp H v a) (hb:IsInp H v b) (hs:v.Small) (w:World) (hH:Holds w H) :
  Calls Tryz.prog 15 #[.agg (tK v a),.agg (tK v b)] w fun e w'=>e=.returned (.bool true)∧Below w.heap.size w w':=by
 have hX:=(Blk.new w 47 (tK v a)).alloc (.cells (tK v b) 47);have hY:=Blk.new (w.alloc (.cells (tK v a) 47)) 47 (tK v b);rw[zY]at hY;have yY:=(zb w (.cells (tK v a) 47)).alloc (zb w (.cells (tK v a) 47)).size (.cells (tK v b) 47);have HH:=Hh (fun wx (h:Below w.heap.size w wx)=>(hH.below h (Nat.le_refl _):Holds wx H));have HA:=Hh ha;have HB:=Hh hb;have HS:=Hh hs;clear ha hb hs hH;have f1:(v.has==v.has)=true:=beq_self_eq_true _;have x0:=hX.cell 0 rfl;have y0:=hY.cell 0 rfl;go_enter Tryz.func15,Tryz.ntmps15
 go_wp2_with fail
 refine(xr _ (HH.out _ yY) rfl rfl (by have:=HS.out.secret;omega) HA.out.secret HB.out.secret).mono ?_
 rintro e w1 ⟨rfl,ri⟩
 replace hX:=hX.below ri;replace hY:=hY.below ri;have zd:=yY.trans (ri.mono yY.size);clear ri yY x0 y0;have x1:=hX.cell 1 rfl;have y1:=hY.cell 1 rfl;go_wp2_with fail
 refine(xr _ (HH.out _ zd) rfl rfl (by have:=HS.out.salt;omega) HA.out.salt HB.out.salt).mono ?_
 rintro e w2 ⟨rfl,tg⟩
 replace hX:=hX.below tg;replace hY:=hY.below tg;have zO:=zd.trans (tg.mono zd.size);clear tg zd x1 y1;have x2:=hX.cell 2 rfl;have y2:=hY.cell 2 rfl;have x3:=hX.cell 3 rfl;have y3:=hY.cell 3 rfl;go_wp2_with fail
 refine(xr _ (HH.out _ zO) rfl rfl (by have:=HS.out.ctx;omega) HA.out.ctx HB.out.ctx).mono ?_
 rintro e w3 ⟨rfl,iu⟩
 replace hX:=hX.below iu;replace hY:=hY.below iu;have yV:=zO.trans (iu.mono zO.size);clear iu zO x2 y2 x3 y3;have x4:=hX.cell 4 rfl;have y4:=hY.cell 4 rfl;go_wp2_with fail
 refine(xr _ (HH.out _ yV) rfl rfl (by have:=HS.out.sender;omega) HA.out.sender HB.out.sender).mono ?_
 rintro e w4 ⟨rfl,iv⟩
 replace hX:=hX.below iv;replace hY:=hY.below iv;have xW:=yV.trans (iv.mono yV.size);clear iv yV x4 y4;have x5:=hX.cell 5 rfl;have y5:=hY.cell 5 rfl;go_wp2_with fail
 refine(xr _ (HH.out _ xW) rfl rfl (by have:=HS.out.recip;omega) HA.out.recip HB.out.recip).mono ?_
 rintro e w5 ⟨rfl,i9⟩
 replace hX:=hX.below i9;replace hY:=hY.below i9;have yv:=xW.trans (i9.mono xW.size);clear i9 xW x5 y5;go_wp2_with fail
 go_ret
 exact⟨rfl,yv⟩
abbrev Zm (v:Rn):List (List UInt8):=[v.mine,v.other,v.priv,v.gx,v.gy,v.h1,v.th,v.prk,v.peer,v.out,v.heard,v.sent]
theorem mJ {H:Snap}{v:Rn}{a:RnA}(h:IsRn H v a):RowC wO H [.slice a.mine.a v.mine.length a.mine.c,.slice a.other.a v.other.length a.other.c,.slice a.priv.a v.priv.length a.priv.c,.slice a.gx.a v.gx.length a.gx.c,.slice a.gy.a v.gy.length a.gy.c,.slice a.h1.a v.h1.length a.h1.c,.slice a.th.a v.th.length a.th.c,.slice a.prk.a v.prk.length a.prk.c,.slice a.peer.a v.peer.length a.peer.c,.slice a.out.a v.out.length a.out.c,.slice a.heard.a v.heard.length a.heard.c,.slice a.sent.a v.sent.length a.sent.c] (Zm v):=by
 exact⟨_,_,rfl,⟨_,_,rfl,h.mine⟩,⟨_,_,rfl,⟨_,_,rfl,h.other⟩,⟨_,_,rfl,⟨_,_,rfl,h.priv⟩,⟨_,_,rfl,⟨_,_,rfl,h.gx⟩,⟨_,_,rfl,⟨_,_,rfl,h.gy⟩,⟨_,_,rfl,⟨_,_,rfl,h.h1⟩,⟨_,_,rfl,⟨_,_,rfl,h.th⟩,⟨_,_,rfl,⟨_,_,rfl,h.prk⟩,⟨_,_,rfl,⟨_,_,rfl,h.peer⟩,⟨_,_,rfl,⟨_,_,rfl,h.out⟩,⟨_,_,rfl,⟨_,_,rfl,h.heard⟩,⟨_,_,rfl,⟨_,_,rfl,h.sent⟩,RowC.nil _ _⟩⟩⟩⟩⟩⟩⟩⟩⟩⟩⟩⟩
theorem jZ {v:Rn}(h:v.Small):rX (Zm v):=by
 refine⟨by simp,fun b hb=>?_⟩
 simp only[Zm,List.mem_cons,List.not_mem_nil,or_false]at hb
 rcases hb with rfl | rfl | rfl | rfl | rfl | rfl | rfl | rfl | rfl | rfl | rfl | rfl
 ·exact h.mine
 ·exact h.other
 ·exact h.priv
 ·exact h.gx
 ·exact h.gy
 ·exact h.h1
 ·exact h.th
 ·exact h.prk
 ·exact h.peer
 ·exact h.out
 ·exact h.heard
 exact h.sent
theorem jX {H:Snap}{v:Rn}{a b:RnA}(ha:IsRn H v a) (hb:IsRn H v b) (hs:v.Small) (w:World) (hH:Holds w H) :
  Calls Tryz.prog 11 #[.agg (rnC v a),.agg (rnC v b)] w fun e w'=>e=.returned (.bool true)∧Below w.heap.size w w':=by
 have hX:=(Blk.new w 34 (rnC v a)).alloc (.cells (rnC v b) 34);have hY:=Blk.new (w.alloc (.cells (rnC v a) 34)) 34 (rnC v b);rw[zY]at hY;have yY:=(zb w (.cells (rnC v a) 34)).alloc (zb w (.cells (rnC v a) 34)).size (.cells (rnC v b) 34);have HH:=Hh (fun wx (h:Below w.heap.size w wx)=>(hH.below h (Nat.le_refl _):Holds wx H));have HA:=Hh ha;have HB:=Hh hb;have HS:=Hh hs;clear ha hb hs hH;obtain⟨f01,f02,f03⟩:=yO v.role;obtain⟨f11,f12,f13⟩:=yO v.phase;obtain⟨f21,f22,f23⟩:=yO v.method;obtain⟨f31,f32,f33⟩:=yO v.suite;obtain⟨f41,f42,f43⟩:=yO v.due;obtain⟨f51,f52,f53⟩:=yO v.count;have x0:=hX.cell 0 rfl;have y0:=hY.cell 0 rfl;have x1:=hX.cell 1 rfl;have y1:=hY.cell 1 rfl;have x2:=hX.cell 2 rfl;have y2:=hY.cell 2 rfl;have x3:=hX.cell 3 rfl;have y3:=hY.cell 3 rfl;have x4:=hX.cell 4 rfl
 have y4:=hY.cell 4 rfl;have x5:=hX.cell 5 rfl;have y5:=hY.cell 5 rfl;have x6:=hX.cell 6 rfl;have y6:=hY.cell 6 rfl;have x7:=hX.cell 7 rfl;have y7:=hY.cell 7 rfl;have x8:=hX.cell 8 rfl;have y8:=hY.cell 8 rfl;have x9:=hX.cell 9 rfl;have y9:=hY.cell 9 rfl;have x10:=hX.cell 10 rfl;have y10:=hY.cell 10 rfl;have x11:=hX.cell 11 rfl;have y11:=hY.cell 11 rfl;have x12:=hX.cell 12 rfl;have y12:=hY.cell 12 rfl;have x13:=hX.cell 13 rfl;have y13:=hY.cell 13 rfl;have x14:=hX.cell 14 rfl;have y14:=hY.cell 14 rfl;have x15:=hX.cell 15 rfl;have y15:=hY.cell 15 rfl;have x16:=hX.cell 16 rfl;have y16:=hY.cell 16 rfl;go_enter Tryz.func11,Tryz.ntmps11
 go_wp2_with fail
 refine(qo HA.out.p HB.out.p HS.out.p _ (HH.out _ yY)).mono ?_
 rintro e w1 ⟨rfl,ri⟩
 replace hX:=hX.below ri;replace hY:=hY.below ri;have zd:=yY.trans (ri.mono yY.size);clear ri yY x0 y0 x1 y1 x2 y2 x3 y3 x4 y4 x5 y5 x6 y6 x7 y7 x8 y8 x9 y9 x10 y10 x11 y11 x12 y12 x13 y13 x14 y14 x15 y15 x16 y16;have x29:=hX.cell 29 rfl;have y29:=hY.cell 29 rfl;have x30:=hX.cell 30 rfl;have y30:=hY.cell 30 rfl;have x31:=hX.cell 31 rfl;have y31:=hY.cell 31 rfl;go_wp2_with fail
 refine(tk HA.out.refused HB.out.refused rfl rfl HS.out.refused _ (HH.out _ zd)).mono ?_
 rintro e w2 ⟨rfl,tg⟩
 replace hX:=hX.below tg;replace hY:=hY.below tg;have zO:=zd.trans (tg.mono zd.size);clear tg zd x29 y29 x30 y30 x31 y31;have x17:=hX.cell 17 rfl;have y17:=hY.cell 17 rfl;have x18:=hX.cell 18 rfl;have y18:=hY.cell 18 rfl;have x19:=hX.cell 19 rfl;have y19:=hY.cell 19 rfl;have x20:=hX.cell 20 rfl;have y20:=hY.cell 20 rfl;have x21:=hX.cell 21 rfl;have y21:=hY.cell 21 rfl;have x22:=hX.cell 22 rfl;have y22:=hY.cell 22 rfl;have x23:=hX.cell 23 rfl;have y23:=hY.cell 23 rfl;have x24:=hX.cell 24 rfl;have y24:=hY.cell 24 rfl;have x25:=hX.cell 25 rfl;have y25:=hY.cell 25 rfl;have x26:=hX.cell 26 rfl;have y26:=hY.cell 26 rfl;have x27:=hX.cell 27 rfl;have y27:=hY.cell 27 rfl;have x28:=hX.cell 28 rfl;have y28:=hY.cell 28 rfl;have i6:=hY.alloc (.cells #[.slice a.mine.a v.mine.length a.mine.c,.slice a.other.a v.other.length a.other.c,.slice a.priv.a v.priv.length a.priv.c,.slice a.gx.a v.gx.length a.gx.c,.slice a.gy.a v.gy.length a.gy.c,.slice a.h1.a v.h1.length a.h1.c,.slice a.th.a v.th.length a.th.c,.slice a.prk.a v.prk.length a.prk.c,.slice a.peer.a v.peer.length a.peer.c,.slice a.out.a v.out.length a.out.c,.slice a.heard.a v.heard.length a.heard.c,.slice a.sent.a v.sent.length a.sent.c] 22)
 have z17:=i6.cell 17 rfl;have z18:=i6.cell 18 rfl;have z19:=i6.cell 19 rfl;have z20:=i6.cell 20 rfl;have z21:=i6.cell 21 rfl;have z22:=i6.cell 22 rfl;have z23:=i6.cell 23 rfl;have z24:=i6.cell 24 rfl;have z25:=i6.cell 25 rfl;have z26:=i6.cell 26 rfl;have z27:=i6.cell 27 rfl;have z28:=i6.cell 28 rfl;have d9:=Grows.refl (HH.out _ zO);obtain⟨H1,wu,aJ,cW⟩:=sB d9 (mJ HA.out) 22 (by simp);obtain⟨H2,yw,rh,kh⟩:=sB wu ((mJ HB.out).mono aJ) 22 (by simp);have Vr:=cW.mono rh;have WX:=zO.trans (yw.below.mono zO.size);obtain⟨P,hP⟩:∃ P,w2.heap.size=P:=⟨_,rfl⟩
 obtain⟨wa,aS⟩:∃ wa,w2.alloc (.cells #[.slice a.mine.a v.mine.length a.mine.c,.slice a.other.a v.other.length a.other.c,.slice a.priv.a v.priv.length a.priv.c,.slice a.gx.a v.gx.length a.gx.c,.slice a.gy.a v.gy.length a.gy.c,.slice a.h1.a v.h1.length a.h1.c,.slice a.th.a v.th.length a.th.c,.slice a.prk.a v.prk.length a.prk.c,.slice a.peer.a v.peer.length a.peer.c,.slice a.out.a v.out.length a.out.c,.slice a.heard.a v.heard.length a.heard.c,.slice a.sent.a v.sent.length a.sent.c] 22)=wa:=⟨_,rfl⟩
 have mj:wa.heap.size=P+1:=by rw[← aS,zY,hP]
 obtain⟨wb,Vw⟩:∃ wb,wa.alloc (.cells #[.slice b.mine.a v.mine.length b.mine.c,.slice b.other.a v.other.length b.other.c,.slice b.priv.a v.priv.length b.priv.c,.slice b.gx.a v.gx.length b.gx.c,.slice b.gy.a v.gy.length b.gy.c,.slice b.h1.a v.h1.length b.h1.c,.slice b.th.a v.th.length b.th.c,.slice b.prk.a v.prk.length b.prk.c,.slice b.peer.a v.peer.length b.peer.c,.slice b.out.a v.out.length b.out.c,.slice b.heard.a v.heard.length b.heard.c,.slice b.sent.a v.sent.length b.sent.c] 22)=wb:=⟨_,rfl⟩
 rw[aS]at yw kh WX;rw[Vw]at yw WX;rw[hP]at Vr;rw[mj]at kh;have SL:=Hh (xS Vr kh (n:=12) (m:=12) rfl rfl (jZ HS.out) wb yw.holds);have HW:=Hh (And.intro hP (And.intro aS (And.intro mj Vw)));have Un:=Hh WX;clear i6 d9 wu yw cW kh Vr aJ rh hP aS mj Vw WX;go_wp2_with fail
 rw[HW.out.2.1];rw[HW.out.2.2.2]
 try rw[HW.out.2.2.1]
 rw[HW.out.1]
 refine SL.out.mono ?_
 rintro e wz ⟨rfl,cJ⟩
 have vQ:=Un.out.trans (cJ.mono Un.out.size);clear SL HW Un cJ hX hY;go_wp2_with fail
 go_ret
 exact⟨rfl,vQ⟩
end Go.Proofs.YtnfoilblmhbobaaGreatDoor
