/- squeezed. Walks: HMAC and the derivation of  -/
import Derived.Test.YtliomcphdnppnaaGreatDoorK34
import Derived.Laws.CopyOwn
import Derived.Deep.DeepCutAuto
import Derived.Deep.CutBlock
import Derived.Shelf.GgSortFunc.SmallK
set_option linter.unusedVariables false
set_option linter.unusedSimpArgs false
set_option maxRecDepth 100000
set_option maxHeartbeats 6400000
namespace Go.Proofs.YtliomcphdnppnaaGreatDoor
open Go.RowKit
theorem kC:(Tryz.prog.info? 5).map (·.size)=some 1:=by kernel_rfl
theorem dC (n:Nat):(madeCells (Value.int .u8 0).cells (n*1)).toList=(List.replicate n (0:UInt8)).map zq:=by
 apply List.ext_getElem?
 intro j
 simp[madeCells,Value.cells,List.getElem?_replicate]
 by_cases h:j<n
 ·simp[h,zq,Nat.mod_one]
 simp[h]
theorem YT {P:Program}{ops:Array Oper}{Q:Exit→Act→World→Prop}{rest:List Oper}{a:Act}{w:World}{dst:Option Tmp}{d s:Operand}{tys:Array TypeId}{T:TypeId}{pos:String}{af:Array Edge}{g:Option (Nat×Bool)}
  (h:zD (wpList P ops Q (⟨dst,.call { callee:=.builtin .copy,args:=#[d,s],argTypes:=tys },T,pos,af,g⟩::rest) a w)):wpList P ops Q (⟨dst,.call { callee:=.builtin .copy,args:=#[d,s],argTypes:=tys },T,pos,af,g⟩::rest) a w:=h
theorem Us {α:Type}(L ns:List α):splice L 0 ns=ns++L.drop ns.length:=by simp[splice]
theorem nA {w:World}{ops:Array Oper}{rest:List Oper}{o:Oper}{a:Act}{Q:Exit→Act→World→Prop}(hgd:o.guard=none) (d s:Operand)
  (ho:o.op=.call { callee:=.builtin .copy,args:=#[d,s],argTypes:=#[23,23] })
  (base:Nat) (A':Option Addr) (n' c':Nat) (l:List UInt8) (hd:a.eval d=.slice A' n' c') (y7:OwnB w base (.slice A' n' c') l) (A:Option Addr) (m c:Nat) (news:List UInt8) (hs:a.eval s=.slice A m c) (hm:m=news.length)
  (hr:Src w A (news.map zq)) (yx:news.length≤l.length) (w0:World) (hb:Below base w0 w)
  (h:∀ w',OwnB w' base (.slice A' n' c') (news++l.drop news.length)→Below base w0 w'→wpList Tryz.prog ops Q rest (a.put o.dst (goInt news.length)) w') :
  wpList Tryz.prog ops Q (o::rest) a w:=by
 subst hm
 rcases y7.2 with ⟨hv,hz⟩ | ⟨g,cap,cur,hv,hbse,hg,hc,lO,hcz,ht⟩
 ·cases hv
  have Ws:l=[]:=List.eq_nil_of_length_eq_zero hz;subst Ws;have yV:news=[]:=List.eq_nil_of_length_eq_zero (by simpa using yx);subst yV
  refine wpList_copy_nothing hgd d s _ _ ho 5 Tryz.underlying23 kC _ _ _ _ _ _ hd hs (by simp) ?_
  exact h w y7 hb
 cases hv
 have cV:(news.map zq).length=news.length:=by simp
 have hz:cur.toList.length=c':=by rw[Array.length_toList,hcz,Nat.mul_one]
 refine wpList_copy_splice hgd d s _ _ ho 5 Tryz.underlying23 kC _ _ _ _ _ _ hd hs g 0 cur.toList 5 (by simpa using hg) (news.map zq) (by rw[cV];exact(Nat.min_eq_left yx).symm) ?_ (by rw[cV,hz];omega) (mJ _) base w0 hb hbse ?_
 ·intro hp
  obtain⟨b,off,e,xg⟩:=hr (by intro h0;rw[h0]at hp;simp at hp)
  exact⟨rfl,_,e,fun j v hj=>by rw[qx];exact xg j v hj⟩
 intro w' hG hB
 rw[cV]
 refine h w' ?_ hB
 have hl:(news++l.drop news.length).length=l.length:=by rw[List.length_append,List.length_drop];omega
 refine⟨by simp,.inr ⟨g,c',(splice cur.toList 0 (news.map zq)).toArray,by rw[hl],hbse,hG.out,by rw[hl];exact hc,lO, ?_, ?_⟩⟩
 ·have:=length_splice cur.toList 0 (news.map zq) (by rw[cV,hz];omega);rw[hz]at this;rw[Nat.mul_one,← this]
  exact List.size_toArray
 rw[hl]
 simp only[List.toList_toArray]
 rw[Us,cV,Nat.mul_one,List.take_append,cV,List.take_of_length_le (by rw[cV];exact yx),List.map_append,List.map_drop];congr 1
 rw[Nat.mul_one]at ht;rw[← ht,List.drop_take]
theorem dv {A:Option Addr}{n c:Nat}{ls:List (List UInt8)}(hn:n=ls.length) (hl:ls.length≤1099511627000) (ht:ls.flatten.length≤1099511627000) (w:World) (hs:SrcR w A ls) :
  Calls Tryz.prog 59 #[.slice A n c] w fun e w'=>∃ r,e=.returned r∧Fresh w (ls.flatten) r w':=by
 have HN:=Hh (And.intro hn (And.intro hl ht));clear hn hl ht;go_enter Tryz.func59,Tryz.ntmps59
 have wD:=OwnB.nil w w.heap.size;have zJ:=Below.refl w.heap.size w;go_wp2_with fail
 go_loopw [3,5,8] (fun v1 v5 v2 wr=>∃ (k:Nat) (VA:Option Addr) (vc vn:Nat) (l:List UInt8),k≤ls.length∧v2=.int .i64 (k:Int)∧v1=.slice VA vn vc∧OwnB wr w.heap.size (.slice VA vn vc) l∧vn=l.length∧(ls.flatten=l++(ls.drop k).flatten)∧Below w.heap.size w wr) (fun _ _ v2 _=>ls.length-(intOf v2).toNat)
 case atStart=>exact⟨0,_,_,_,_,Nat.zero_le _,rfl,rfl,wD,rfl,by simp,zJ⟩
 case round =>
 clear wD zJ;obtain⟨k,VA,vc,vn,l,qq,rfl,rfl,wE,iE,xA,yO⟩:=hrel;have HV:=Hh iE;have HE:=Hh xA;clear iE xA
 by_cases zB:k<ls.length
 ·obtain⟨ib,io,rfl,hr⟩:=hs (by omega);have IF:(k:Int)<(n:Int):=by have:=HN.out.1;omega
  obtain⟨Aj,cj,c0,GX⟩:=hr k zB;have q0:=(yO.cell (World.block_lt_of_cell? w _ c0)).trans c0;have Zj:=GX.below yO;have nz:(k:Int)+1≤9223372036854775807:=by have:=HN.out.2.1;omega
  have HT:Hid (l.length+ls[k].length≤1099511627776):=by
   have h1:=congrArg List.length HE.out;rw[nF ls k zB]at h1
   simp only[List.length_append]at h1
   have:=HN.out.2.2;skip
   rw[Hid];omega
  have HF:Hid (ls.flatten=(l++ls[k])++(ls.drop (k+1)).flatten):=by rw[Hid,HE.out,nF ls k zB,List.append_assoc]
  clear hr c0 GX;go_wp2_with (at_builtin;refine zM ?_)
  unfold zD
  obtain rfl:=HV.out
  refine zo rfl (.tmp 12) (.tmp 13) rfl w.heap.size _ _ rfl wE Aj _ cj ls[k] rfl rfl Zj HT.out yO.size fun v' w7 vX wh hat7=>?_
  obtain⟨VA',vc',rfl,_⟩:=vX.form;have fk:OwnB w7 w.heap.size (.slice VA' (l.length+ls[k].length) vc') (l++ls[k]):=by rw[← List.length_append];exact vX
  have wJ:=yO.grown wh yO.size (fun q hq=>(wE.lt q hq).1);clear wE wh hat7 yO q0 Zj vX;go_wp2_with fail
  go_roundw
  case rel=>exact⟨k+1,VA',vc',_,_,by omega,by go_num,rfl,fk,by rw[List.length_append],HF.out,wJ⟩
  case measure=>simp[intOf];omega
 have fB:k=ls.length:=by omega
 subst fB;have IF:¬ ((ls.length:Int)<(n:Int)):=by have:=HN.out.1;omega
 have HZ:Hid (ls.flatten=l):=by rw[Hid,HE.out,List.drop_length];simp
 go_wp2_with fail
 go_ret
 obtain rfl:=HV.out
 exact⟨_,rfl,by rw[HZ.out];exact⟨wE,yO⟩⟩
theorem aV {A:Option Addr}{c:Nat}{key:List UInt8}{n:Nat}(hn:n=key.length) (me:key.length≤1099511627) (m:Int) (w:World) (hS:Src w A (key.map zq)) :
  Calls Tryz.prog 60 #[.slice A n c,.int .u8 m] w fun e w'=>∃ r,e=.returned r∧Fresh w (rh m key) r w':=by
 have HN:=Hh (And.intro hn me);have HS:=Hh hS;have SM:=Hh (oE (c:=c) hn me w hS);clear hn me hS;go_enter Tryz.func60,Tryz.ntmps60
 go_upto_if 9 with fail
 go_cut [0] (fun s0 wx=>∃ (A1:Option Addr) (n1 c1:Nat),s0=.slice A1 n1 c1∧Hid (n1=(oU key).length)∧Src wx A1 ((oU key).map zq)∧Below w.heap.size w wx)
 case first =>
  by_cases h64:n≤64
  ·have e:oU key=key:=by rw[oU,if_neg (by have:=HN.out.1;omega)]
   have Gy:¬ ((64:Int)<(n:Int)):=by omega
   go_wp2_with fail
   go_meet
   exact⟨A,n,c,rfl,by rw[Hid,e];exact HN.out.1,by rw[e];exact HS.out,Below.refl _ _⟩
  have e:oU key=lK key:=by rw[oU,if_pos (by have:=HN.out.1;omega)]
  have Gy:(64:Int)<(n:Int):=by omega
  have Tt:=Hh e;clear e;go_wp2_with fail
  refine SM.out.mono ?_
  rintro e w1 ⟨r1,rfl,j7⟩
  obtain⟨A1,c1,rfl,cC⟩:=j7.own.form;have vl:=j7.own.src;have zJ:=j7.2;clear cC j7;obtain⟨n1,uw⟩:∃ n1,(lK key).length=n1:=⟨_,rfl⟩
  rw[uw];have WL:=Hh uw;clear uw;go_wp2_with fail
  go_meet
  exact⟨A1,n1,c1,rfl,by rw[Hid,Tt.out];exact WL.out.symm,by rw[Tt.out];exact vl,zJ⟩
 case rest =>
 clear SM;obtain⟨A1,n1,c1,rfl,WL,vl,zJ⟩:=hcut;have In:=Hh (gT key);obtain⟨K,hK⟩:∃ K,oU key=K:=⟨_,rfl⟩
 have R6:Hid (rh m key=(re K).map (fz m)):=by rw[Hid,rh,hK]
 rw[hK]at WL In vl;obtain⟨i0,uv,o1,rp,rQ⟩:=info_parts kx;clear hK;go_wp2_with (at_make;refine zM ?_)
 refine wpList_make_full _ rfl _ _ 23 rfl w.heap.size 5 i0 _ 1 Tryz.underlying23 uv o1 rp _ _ _ _ 64 rfl rfl (by omega) (by omega) (by rw[rQ];omega) (by simp only[maxLen];omega) zJ.size fun w2 hO tu=>?_
 have zK:=zJ.trans ((yS tu).mono zJ.size);have cG:=vl.below (yS tu)
 have rj:OwnB w2 w.heap.size (.slice (some ⟨wc.heap.size,0,none⟩) 64 64) (List.replicate 64 0):=by
  have h:w2.ownsRow w.heap.size 5 1 (.slice (some ⟨wc.heap.size,0,none⟩) 64 64) (List.replicate 64 (0:UInt8)).length ((List.replicate 64 (0:UInt8)).map zq):=by
   rw[List.length_replicate,← dC]
   exact hO
  exact h
 obtain⟨G,hG⟩:∃ G,wc.heap.size=G:=⟨_,rfl⟩
 rw[hG]at rj⊢;clear uv o1 rp rQ hO tu vl zJ hG;go_wp2_with (with_reducible refine YT ?_)
 refine nA rfl (.tmp 13) (.tmp 14) rfl w.heap.size _ _ _ _ rfl rj A1 n1 c1 K rfl WL.out cG (by rw[List.length_replicate];exact In.out) w zK fun w3 oX xz=>?_
 have JS:K++(List.replicate 64 (0:UInt8)).drop K.length=re K:=by rw[re,List.drop_replicate]
 rw[JS,← SR m (re K)]at oX;have Ee:=Hh (gN In.out);clear rj zK cG JS;go_wp2_with fail
 go_loopw [18] (fun v18 wr=>∃ i:Nat,v18=.int .i64 (i:Int)∧i≤64∧OwnB wr w.heap.size (.slice (some ⟨G,0,none⟩) 64 64) (sI m (re K) i)∧Below w.heap.size w wr) (fun v18 _=>(64-intOf v18).toNat)
 case atStart=>exact⟨0,rfl,by omega,oX,xz⟩
 case round =>
 clear oX xz;obtain⟨i,rfl,hi,hO,hb⟩:=hrel
 by_cases zB:(i:Int)<64
 ·have mw:i<(re K).length:=by rw[Ee.out];omega
  have ms:i<(sI m (re K) i).length:=by rw[gf];exact mw
  have cl:wr.cell? ⟨G,i,none⟩=some (zq (re K)[i]):=by
   obtain⟨b,off,e,hc⟩:=hO.src (by intro h;have:=congrArg List.length h;rw[List.length_map]at this;simp at this;rw[this]at ms;simp at ms)
   cases e
   have h:=hc i (zq (sI m (re K) i)[i]) (by rw[List.getElem?_map,List.getElem?_eq_getElem ms];rfl);rw[Xz m mw,Nat.zero_add]at h
   exact h
  have FF:=Hh (V6 m (re K)[i]);have WM:=Hh (Y0 m mw);obtain⟨u,hu⟩:∃ u,(re K)[i]=u:=⟨_,rfl⟩
  rw[hu]at cl FF WM;obtain⟨gq,cur,e,G2,Mr,Wq,WA⟩:=hO.store_ (k:=i) ms
  cases e
  have bm:=Hh WA;clear hu mw ms WA hO;go_wp2_with (with_reducible refine zx ?_)
  refine ze rfl _ _ _ rfl rfl G i (zq (fz m u)) rfl (by rw[FF.out];rfl) _ _ Mr kC Wq rfl fun w4 ez mv=>?_
  have rl:=bm.out w4 (fz m u) ez;rw[WM.out]at rl;have ui:=zR hb mv (by rintro q ⟨⟩;exact G2);clear Mr mv hb ez cl bm;go_wp2_with fail
  go_roundw
  case rel=>exact⟨i+1,by go_num,by omega,rl,ui⟩
  case measure=>simp[intOf];omega
 obtain rfl:i=64:=by omega
 rw[Xy m (by rw[Ee.out];exact Nat.le_refl _),← R6.out]at hO;rw[show((64:Nat):Int)=64 from rfl]at zB⊢;go_wp2_with fail
 go_ret
 exact⟨_,rfl,hO,hb⟩
theorem SrcR.lit2 (w:World) (t:TypeId) {A1 A2:Option Addr}{n1 c1 n2 c2:Nat}{l1 l2:List UInt8}(e1:n1=l1.length) (e2:n2=l2.length) (h1:Src w A1 (l1.map zq)) (h2:Src w A2 (l2.map zq)) :
  SrcR (w.alloc (.cells #[.slice A1 n1 c1,.slice A2 n2 c2] t)) (some ⟨w.heap.size,0,none⟩) [l1,l2]:=fun _=>by
 have hB:=Blk.new w t #[.slice A1 n1 c1,.slice A2 n2 c2]
 refine⟨w.heap.size,0,rfl,fun j hj=>?_⟩
 subst e1 e2
 match j,hj with
 | 0,_=>exact⟨A1,c1,hB.cell 0 rfl,h1.alloc _⟩
 | 1,_=>exact⟨A2,c2,hB.cell 1 rfl,h2.alloc _⟩
theorem du {A:Option Addr}{c:Nat}{key:List UInt8}{n:Nat}(hn:n=key.length) (me:key.length≤1099511627) {B:Option Addr}{d:Nat}{b:List UInt8}{k:Nat}(hk:k=b.length) (hmb:b.length≤1099511000) (w:World) (hS:Src w A (key.map zq)) (hT:Src w B (b.map zq)) :
  Calls Tryz.prog 22 #[.slice A n c,.slice B k d] w fun e w'=>∃ r,e=.returned r∧Fresh w (sx key b) r w':=by
 have HN:=Hh (And.intro hn (And.intro hk hmb));have HS:=Hh hS;have HT:=Hh hT;have M1:=Hh (fun(m:Int) w (hS:Src w A (key.map zq))=>aV (c:=c) hn me m w hS);clear hn me hk hmb hS hT;go_enter Tryz.func22,Tryz.ntmps22
 go_wp2_with fail
 refine(M1.out 92 _ HS.out).mono ?_
 rintro e w1 ⟨r1,rfl,j7⟩
 obtain⟨A1,c1,rfl,_⟩:=j7.own.form;rw[uQ];have zJ:=j7.2;have vl:=j7.own.src;clear j7;go_wp2_with fail
 refine(M1.out 54 _ (HS.out.below zJ)).mono ?_
 rintro e w2 ⟨r2,rfl,WY⟩
 obtain⟨A2,c2,rfl,_⟩:=WY.own.form;rw[uQ];have zK:=zJ.trans (WY.2.mono zJ.size);have MS:=vl.below WY.2;have og:=SrcR.lit2 (c1:=c2) (c2:=d) w2 23 (uQ 54 key).symm HN.out.2.1 WY.own.src (HT.out.below zK);have xz:=zK.alloc zK.size (.cells #[.slice A2 64 c2,.slice B k d] 23);have Q2:=MS.alloc (.cells #[.slice A2 64 c2,.slice B k d] 23);obtain⟨P,hP⟩:∃ P,w2.heap.size=P:=⟨_,rfl⟩
 rw[hP]at og;have HP:=Hh hP;obtain⟨w3,Ni⟩:∃ w3,w2.alloc (.cells #[.slice A2 64 c2,.slice B k d] 23)=w3:=⟨_,rfl⟩
 rw[Ni]at og xz Q2;have Cv:=Hh Ni;have JN:=Hh (dv (n:=2) (c:=2) rfl (by simp) (by simp[uQ];have:=HN.out.2.2;omega) w3 og);clear hP Ni og vl MS zJ zK WY M1;go_wp2_with fail
 rw[Cv.out,HP.out]
 refine JN.out.mono ?_
 rintro e w4 ⟨r4,rfl,Tz⟩
 rw[show [rh 54 key,b].flatten=rh 54 key++b by simp]at Tz;have Ej:Hid ((rh 54 key++b).length≤1099511627):=by rw[Hid,List.length_append,uQ];have:=HN.out.2.2;omega
 obtain⟨I,hI⟩:∃ I,rh 54 key++b=I:=⟨_,rfl⟩
 have HI:=Hh hI;rw[hI]at Tz Ej;obtain⟨A4,c4,rfl,_⟩:=Tz.own.form;obtain⟨m4,Je⟩:∃ m,I.length=m:=⟨_,rfl⟩
 rw[Je];have SM:=Hh (oE (c:=c4) Je.symm Ej.out w4 Tz.own.src);have ui:=xz.trans (Tz.2.mono xz.size);have GW:=Q2.below Tz.2;clear hI Je Tz xz Q2 JN;go_wp2_with fail
 refine SM.out.mono ?_
 rintro e w5 ⟨r5,rfl,vC⟩
 obtain⟨A5,c5,rfl,_⟩:=vC.own.form;rw[rD];have xS:=ui.trans (vC.2.mono ui.size);have Jm:=GW.below vC.2;have qL:=SrcR.lit2 (c1:=c1) (c2:=c5) w5 23 (uQ 92 key).symm (rD I).symm Jm vC.own.src;have xT:=xS.alloc xS.size (.cells #[.slice A1 64 c1,.slice A5 32 c5] 23);obtain⟨P5,Td⟩:∃ P,w5.heap.size=P:=⟨_,rfl⟩
 rw[Td]at qL;have Cm:=Hh Td;obtain⟨w6,cI⟩:∃ w6,w5.alloc (.cells #[.slice A1 64 c1,.slice A5 32 c5] 23)=w6:=⟨_,rfl⟩
 rw[cI]at qL xT;have Cw:=Hh cI;have JN:=Hh (dv (n:=2) (c:=2) rfl (by simp) (by simp[uQ,rD]) w6 qL);clear Td cI qL GW Jm ui xS vC SM;go_wp2_with fail
 rw[Cw.out,Cm.out]
 refine JN.out.mono ?_
 rintro e w7 ⟨r7,rfl,Yw⟩
 rw[show [rh 92 key,lK I].flatten=rh 92 key++lK I by simp]at Yw;obtain⟨O,hO⟩:∃ O,rh 92 key++lK I=O:=⟨_,rfl⟩
 have HO:Hid (lK O=sx key b∧O.length=96):=by
  rw[Hid,← hO]
  refine⟨by rw[sx,← HI.out],by rw[List.length_append,uQ,rD]⟩
 rw[hO]at Yw;obtain⟨A7,c7,rfl,_⟩:=Yw.own.form;rw[HO.out.2];have SM:=Hh (oE (c:=c7) (n:=96) HO.out.2.symm (by rw[HO.out.2];omega) w7 Yw.own.src);have wJ:=xT.trans (Yw.2.mono xT.size);clear hO Yw xT JN;go_wp2_with fail
 refine SM.out.mono ?_
 rintro e w8 ⟨r8,rfl,fA⟩
 have ho:=fA.own.more (base':=w.heap.size) wJ.size;have oN:=wJ.trans (fA.2.mono wJ.size);clear fA wJ SM;go_wp2_with fail
 go_ret
 exact⟨_,rfl,by rw[← HO.out.1];exact⟨ho,oN⟩⟩
def Of (w:World) (H:Snap) (o:Option Itm) (e:Ending) (w':World):Prop:=∃ v,e=.returned (.tuple #[v,.bool o.isSome])∧Gives w H (o.getD zn) v w'
theorem aO {H:Snap}(hTab:Tabs H) {p u:Itm}{a b:Ad}(hp:IsItem H a.ba a.bc a.ia a.ic p) (hu:IsItem H b.ba b.bc b.ia b.ic u) (j:Nat) (hj:j<100) (w:World) (hH:Holds w H) :
  Calls Tryz.prog 71 #[.agg (zF p a u b),.int .i64 (j:Int)] w (Of w H (lD p u (j:Int))):=by
 have hB:=(Blk.new w 28 (zF p a u b)).alloc zT;have hT:=Blk.new (w.alloc (.cells (zF p a u b) 28)) 26 #[.int .i64 0,.int .u64 0,.slice none 0 0,.slice none 0 0]
 simp only[zr]at hT
 have hG:=((Grows.refl hH).alloc (.cells (zF p a u b) 28)).alloc zT;have uL:H (w.heap.size+1)=none:=hH.none_of_ge (by omega);have V:=Hh (sm hTab hp hu _ hG.holds);have HP:=Hh hp;have HU:=Hh hu;have HT:=Hh hTab;clear hp hu hTab hH;have c0:=hB.cell 0 rfl;have c1:=hB.cell 1 rfl;have c2:=hB.cell 2 rfl;have c3:=hB.cell 3 rfl;have c4:=hB.cell 4 rfl;have c5:=hB.cell 5 rfl;have c6:=hB.cell 6 rfl;have c7:=hB.cell 7 rfl;go_enter Tryz.func71,Tryz.ntmps71
 go_wp2_with fail
 refine V.out.mono ?_
 rintro e w2 ⟨rfl,zK⟩
 replace hB:=hB.below zK;replace hT:=hT.below zK;have xB:=hG.below_ zK;clear V hG zK c0 c1 c2 c3 c4 c5 c6 c7;have Gb:∀ (o:Option Itm),lD p u (j:Int)=o→Hid (lD p u (j:Int)=o):=fun _ h=>h
 cases hv:zI p u with
 | false =>
  have E:=Hh (show lD p u (j:Int)=none by rw[lD,hv];rfl);clear hv hB Gb;go_wp2_with (with_reducible refine zx ?_)
  refine stI hT fun w9 kj yL=>?_
  have tI:=xB.grownOwn uL (by omega) yL;go_wp2_with fail
  refine zY rfl rfl kj rfl rfl zp rfl ?_
  exact⟨_,by rw[E.out];rfl,by rw[E.out];exact⟨none,0,none,0,H,rfl,tI,IsItem.plain H 0 0 (by omega) (by omega)⟩⟩
 | true =>
 have E:=Hh (show lD p u (j:Int)=vT p u (j:Int) by rw[lD,if_pos hv]);have C:=Hh (pM HT.out HP.out HU.out (j:Int) (by omega) (by omega) _ xB.holds);clear hv Gb;have c0:=hB.cell 0 rfl;have c1:=hB.cell 1 rfl;have c2:=hB.cell 2 rfl;have c3:=hB.cell 3 rfl;have c4:=hB.cell 4 rfl;have c5:=hB.cell 5 rfl;have c6:=hB.cell 6 rfl;have c7:=hB.cell 7 rfl;obtain⟨o,ho⟩:∃ o,vT p u (j:Int)=o:=⟨_,rfl⟩
 rw[ho]at C ;have EO:=Hh (E.out.trans ho);clear hB ho E;go_wp2_with fail
 refine C.out.mono ?_
 rintro e w3 ⟨v3,rfl,xa,xb,xc,xd,H3,rfl,yN,DO⟩
 have xl:=xB.trans yN;have Hl:=yN.none uL hT.lt;replace hT:=hT.below yN.below;clear C yN c0 c1 c2 c3 c4 c5 c6 c7;obtain⟨q,hq⟩:∃ q,o.isSome=q:=⟨_,rfl⟩
 rw[hq];have HQ:=Hh hq;clear hq;go_wp2_with (with_reducible refine zx ?_)
 refine stI hT fun w9 kj yL=>?_
 have tI:=xl.grownOwn Hl (by omega) yL;go_wp2_with fail
 refine zY rfl rfl kj rfl rfl zp rfl ?_
 exact⟨_,by rw[EO.out,HQ.out];rfl,by rw[EO.out];exact⟨xa,xb,xc,xd,H3,rfl,tI,DO⟩⟩
theorem jO {H:Snap}(hTab:Tabs H) {p u:Itm}{a b:Ad}(hp:IsItem H a.ba a.bc a.ia a.ic p) (hu:IsItem H b.ba b.bc b.ia b.ic u) (w:World) (hH:Holds w H) :
  Calls Tryz.prog 31 #[.agg (zF p a u b)] w fun e w'=>e=.returned (.int .i64 (rF p u))∧Below w.heap.size w w':=by
 have hG:=(Grows.refl hH).alloc (.cells (zF p a u b) 28);have C:=Hh (aO hTab hp hu 1 (by omega) _ hG.holds);have A:Hid (∀ o,lD p u ((1:Nat):Int)=o→rF p u=match o with | some x=>bS x | none=>0):=by rintro o rfl;rfl
 obtain⟨o,ho⟩:∃ o,lD p u ((1:Nat):Int)=o:=⟨_,rfl⟩
 rw[ho]at C;have AO:=Hh (A.out o ho);clear hp hu hTab hH ho A;go_enter Tryz.func31,Tryz.ntmps31
 go_wp2_with fail
 refine C.out.mono ?_
 rintro e w2 ⟨v2,rfl,xa,xb,xc,xd,H2,rfl,xB,RI⟩
 have yN:=hG.trans xB;clear C hG xB
 cases o with
 | none =>
  have E:Hid (rF p u=0):=AO.out
  simp only[Option.getD_none,Option.isSome_none]at RI⊢
  have xl:=yN.alloc (zh zn xa xb xc xd);have tV:=xl.below;clear AO yN RI;go_wp2_with fail
  go_ret
  exact⟨by rw[E.out];rfl,tV⟩
 | some x =>
 have E:Hid (rF p u=bS x):=AO.out
 simp only[Option.getD_some,Option.isSome_some]at RI⊢
 have xl:=yN.alloc (zh x xa xb xc xd);have tV:=xl.below;have hU:=Blk.new w2 26 #[.int .i64 x.kind,.int .u64 x.n,.slice xa x.bytes.length xb,.slice xc x.items.length xd];obtain⟨q,hq⟩:∃ q,IntKind.i64.wrap ((x.n:Nat):Int)=q:=⟨_,rfl⟩
 obtain⟨r,hr⟩:∃ r,IntKind.i64.wrap (-1-q)=r:=⟨_,rfl⟩
 have EV:Hid (bS x=if x.kind=1 then r else q):=by rw[Hid,bS,hq,hr]
 have u0:=hU.cell 0 rfl;have u1:=hU.cell 1 rfl;clear AO yN RI hU
 by_cases h1:x.kind=1
 ·have k1:(x.kind==1)=true:=by simpa using h1
  rw[if_pos h1]at EV;have D9:=eq_true h1;clear h1;go_wp2_with fail
  go_ret
  exact⟨by rw[E.out,EV.out];rfl,tV⟩
 have k1:(x.kind==1)=false:=by simpa using h1
 rw[if_neg h1]at EV;have D9:=eq_false h1;clear h1 hr;go_wp2_with fail
 go_ret
 exact⟨by rw[E.out,EV.out];rfl,tV⟩
end Go.Proofs.YtliomcphdnppnaaGreatDoor
namespace Go.Proofs.YtliomcphdnppnaaGreatDoor
open Go.RowKit Go.Shelf
def Sh:Go.Shelf.Ren:=⟨fun | 6=>108 | 10=>134 | 11=>135 | 12=>136 | 13=>137 | 14=>138 | 24=>177 | 25=>178 | 26=>179 | 27=>180 | 28=>181 | 29=>182 | 30=>183 | 31=>184 | 32=>185 | 33=>186 | 34=>203 | 35=>204 | 36=>205 | 37=>206 | 38=>207 | 39=>215 | n=>n,
 fun | 0=>0 | 3=>3 | 4=>4 | 5=>5 | 9=>9 | 12=>12 | 17=>17 | 20=>20 | 26=>152 | 32=>181 | 33=>182 | 35=>184 | 37=>186 | 41=>62 | 44=>192 | 49=>135 | 51=>22 | 53=>229 | 54=>230 | 58=>234 | 60=>246 | 64=>249 | 66=>259 | 67=>260 | 75=>270 | 76=>271 | 77=>272 | 78=>273 | 79=>274 | 80=>275 | 82=>277 | n=>n,fun n=>n⟩
theorem kE:LaysGg.n6 Tryz.prog Sh where
 mixed:=by kernel_rfl
 f6:=Tryz.func108.trans (congrArg some (by kernel_rfl))
 f10:=Tryz.func134.trans (congrArg some (by kernel_rfl))
 f11:=Tryz.func135.trans (congrArg some (by kernel_rfl))
 f12:=Tryz.func136.trans (congrArg some (by kernel_rfl))
 f13:=Tryz.func137.trans (congrArg some (by kernel_rfl))
 f14:=Tryz.func138.trans (congrArg some (by kernel_rfl))
 f24:=Tryz.func177.trans (congrArg some (by kernel_rfl))
 f25:=Tryz.func178.trans (congrArg some (by kernel_rfl))
 f26:=Tryz.func179.trans (congrArg some (by kernel_rfl))
 f27:=Tryz.func180.trans (congrArg some (by kernel_rfl))
 f28:=Tryz.func181.trans (congrArg some (by kernel_rfl))
 f29:=Tryz.func182.trans (congrArg some (by kernel_rfl))
 f30:=Tryz.func183.trans (congrArg some (by kernel_rfl))
 f31:=Tryz.func184.trans (congrArg some (by kernel_rfl))
 f32:=Tryz.func185.trans (congrArg some (by kernel_rfl))
 f33:=Tryz.func186.trans (congrArg some (by kernel_rfl))
 f34:=Tryz.func203.trans (congrArg some (by kernel_rfl))
 f35:=Tryz.func204.trans (congrArg some (by kernel_rfl))
 f36:=Tryz.func205.trans (congrArg some (by kernel_rfl))
 f37:=Tryz.func206.trans (congrArg some (by kernel_rfl))
 f38:=Tryz.func207.trans (congrArg some (by kernel_rfl))
 f39:=Tryz.func215.trans (congrArg some (by kernel_rfl))
 t0:=Tryz.underlying0
 a0:=Tryz.isAgg0
 z0:=Tryz.sizeOf0
 v0:=Tryz.zeroValue0
 i0:=by kernel_rfl
 t3:=Tryz.underlying3
 a3:=Tryz.isAgg3
 z3:=Tryz.sizeOf3
 v3:=Tryz.zeroValue3
 i3:=by kernel_rfl
 t4:=Tryz.underlying4
 a4:=Tryz.isAgg4
 z4:=Tryz.sizeOf4
 v4:=Tryz.zeroValue4
 i4:=by kernel_rfl
 t5:=Tryz.underlying5
 a5:=Tryz.isAgg5
 z5:=Tryz.sizeOf5
 v5:=Tryz.zeroValue5
 i5:=by kernel_rfl
 t9:=Tryz.underlying9
 a9:=Tryz.isAgg9
 z9:=Tryz.sizeOf9
 v9:=Tryz.zeroValue9
 i9:=by kernel_rfl
 t12:=Tryz.underlying12
 a12:=Tryz.isAgg12
 z12:=Tryz.sizeOf12
 v12:=Tryz.zeroValue12
 i12:=by kernel_rfl
 t17:=Tryz.underlying17
 a17:=Tryz.isAgg17
 z17:=Tryz.sizeOf17
 v17:=Tryz.zeroValue17
 i17:=by kernel_rfl
 t20:=Tryz.underlying20
 a20:=Tryz.isAgg20
 z20:=Tryz.sizeOf20
 v20:=Tryz.zeroValue20
 i20:=by kernel_rfl
 t26:=Tryz.underlying152
 a26:=Tryz.isAgg152
 z26:=Tryz.sizeOf152
 v26:=Tryz.zeroValue152
 i26:=by kernel_rfl
 t32:=Tryz.underlying181
 a32:=Tryz.isAgg181
 z32:=Tryz.sizeOf181
 v32:=Tryz.zeroValue181
 i32:=by kernel_rfl
 t33:=Tryz.underlying182
 a33:=Tryz.isAgg182
 z33:=Tryz.sizeOf182
 v33:=Tryz.zeroValue182
 i33:=by kernel_rfl
 t35:=Tryz.underlying184
 a35:=Tryz.isAgg184
 z35:=Tryz.sizeOf184
 v35:=Tryz.zeroValue184
 i35:=by kernel_rfl
 t37:=Tryz.underlying186
 a37:=Tryz.isAgg186
 z37:=Tryz.sizeOf186
 v37:=Tryz.zeroValue186
 i37:=by kernel_rfl
 t41:=Tryz.underlying62
 a41:=Tryz.isAgg62
 z41:=Tryz.sizeOf62
 v41:=Tryz.zeroValue62
 i41:=by kernel_rfl
 t44:=Tryz.underlying192
 a44:=Tryz.isAgg192
 z44:=Tryz.sizeOf192
 v44:=Tryz.zeroValue192
 i44:=by kernel_rfl
 t49:=Tryz.underlying135
 a49:=Tryz.isAgg135
 z49:=Tryz.sizeOf135
 v49:=Tryz.zeroValue135
 i49:=by kernel_rfl
 t51:=Tryz.underlying22
 a51:=Tryz.isAgg22
 z51:=Tryz.sizeOf22
 v51:=Tryz.zeroValue22
 i51:=by kernel_rfl
 t53:=Tryz.underlying229
 a53:=Tryz.isAgg229
 z53:=Tryz.sizeOf229
 v53:=Tryz.zeroValue229
 i53:=by kernel_rfl
 t54:=Tryz.underlying230
 a54:=Tryz.isAgg230
 z54:=Tryz.sizeOf230
 v54:=Tryz.zeroValue230
 i54:=by kernel_rfl
 t58:=Tryz.underlying234
 a58:=Tryz.isAgg234
 z58:=Tryz.sizeOf234
 v58:=Tryz.zeroValue234
 i58:=by kernel_rfl
 t60:=Tryz.underlying246
 a60:=Tryz.isAgg246
 z60:=Tryz.sizeOf246
 v60:=Tryz.zeroValue246
 i60:=by kernel_rfl
 t64:=Tryz.underlying249
 a64:=Tryz.isAgg249
 z64:=Tryz.sizeOf249
 v64:=Tryz.zeroValue249
 i64:=by kernel_rfl
 t66:=Tryz.underlying259
 a66:=Tryz.isAgg259
 z66:=Tryz.sizeOf259
 v66:=Tryz.zeroValue259
 i66:=by kernel_rfl
 t67:=Tryz.underlying260
 a67:=Tryz.isAgg260
 z67:=Tryz.sizeOf260
 v67:=Tryz.zeroValue260
 i67:=by kernel_rfl
 t75:=Tryz.underlying270
 a75:=Tryz.isAgg270
 z75:=Tryz.sizeOf270
 v75:=Tryz.zeroValue270
 i75:=by kernel_rfl
 t76:=Tryz.underlying271
 a76:=Tryz.isAgg271
 z76:=Tryz.sizeOf271
 v76:=Tryz.zeroValue271
 i76:=by kernel_rfl
 t77:=Tryz.underlying272
 a77:=Tryz.isAgg272
 z77:=Tryz.sizeOf272
 v77:=Tryz.zeroValue272
 i77:=by kernel_rfl
 t78:=Tryz.underlying273
 a78:=Tryz.isAgg273
 z78:=Tryz.sizeOf273
 v78:=Tryz.zeroValue273
 i78:=by kernel_rfl
 t79:=Tryz.underlying274
 a79:=Tryz.isAgg274
 z79:=Tryz.sizeOf274
 v79:=Tryz.zeroValue274
 i79:=by kernel_rfl
 t80:=Tryz.underlying275
 a80:=Tryz.isAgg275
 z80:=Tryz.sizeOf275
 v80:=Tryz.zeroValue275
 i80:=by kernel_rfl
 t82:=Tryz.underlying277
 a82:=Tryz.isAgg277
 z82:=Tryz.sizeOf277
 v82:=Tryz.zeroValue277
 i82:=by kernel_rfl
end Go.Proofs.YtliomcphdnppnaaGreatDoor
