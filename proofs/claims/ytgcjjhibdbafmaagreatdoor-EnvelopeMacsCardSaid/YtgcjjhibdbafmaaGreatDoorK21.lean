/- squeezed. Walks: HMAC and the derivation of  -/
import Derived.Test.YtgcjjhibdbafmaaGreatDoorK20
import Derived.Laws.CopyOwn
import Derived.Deep.DeepCutAuto
import Derived.Deep.CutBlock
import Derived.Shelf.GgSortFunc.SmallK
import Derived.Test.YtgcjjhibdbafmaaGreatDoorK13
import Derived.Sort.LotA
set_option linter.unusedVariables false
set_option linter.unusedSimpArgs false
set_option maxRecDepth 100000
set_option maxHeartbeats 6400000
namespace Go.Proofs.YtgcjjhibdbafmaaGreatDoor
open Go.RowKit
theorem size_u8m:(Tryz.prog.info? 5).map (·.size)=some 1:=by kernel_rfl
theorem made_zerosB (n:Nat):(madeCells (Value.int .u8 0).cells (n*1)).toList=(List.replicate n (0:UInt8)).map byteV:=by
 apply List.ext_getElem?
 intro j
 simp[madeCells,Value.cells,List.getElem?_replicate]
 by_cases h:j<n
 ·simp[h,byteV,Nat.mod_one]
 ·simp[h]
theorem stop_copy {P:Program}{ops:Array Oper}{Q:Exit→Act→World→Prop}{rest:List Oper}{a:Act}{w:World}{dst:Option Tmp}{d s:Operand}{tys:Array TypeId}{T:TypeId}{pos:String}{af:Array Edge}{g:Option (Nat×Bool)}
  (h:Stopped (wpList P ops Q (⟨dst,.call { callee:=.builtin .copy,args:=#[d,s],argTypes:=tys },T,pos,af,g⟩::rest) a w)):wpList P ops Q (⟨dst,.call { callee:=.builtin .copy,args:=#[d,s],argTypes:=tys },T,pos,af,g⟩::rest) a w:=h
theorem splice_0 {α:Type}(L ns:List α):splice L 0 ns=ns++L.drop ns.length:=by simp[splice]
theorem wpList_copy_bytes {w:World}{ops:Array Oper}{rest:List Oper}{o:Oper}{a:Act}{Q:Exit→Act→World→Prop}(hgd:o.guard=none) (d s:Operand)
  (ho:o.op=.call { callee:=.builtin .copy,args:=#[d,s],argTypes:=#[23,23] })
  (base:Nat) (A':Option Addr) (n' c':Nat) (l:List UInt8) (hd:a.eval d=.slice A' n' c') (hown:OwnB w base (.slice A' n' c') l) (A:Option Addr) (m c:Nat) (news:List UInt8) (hs:a.eval s=.slice A m c) (hm:m=news.length)
  (hr:Src w A (news.map byteV)) (hle:news.length≤l.length) (w0:World) (hb:Below base w0 w)
  (h:∀ w',OwnB w' base (.slice A' n' c') (news++l.drop news.length)→Below base w0 w'→wpList Tryz.prog ops Q rest (a.put o.dst (goInt news.length)) w') :
  wpList Tryz.prog ops Q (o::rest) a w:=by
 subst hm
 rcases hown.2 with ⟨hv,hz⟩ | ⟨g,cap,cur,hv,hbse,hg,hc,hmx,hcz,ht⟩
 ·cases hv
  have hl0:l=[]:=List.eq_nil_of_length_eq_zero hz;subst hl0;have hn0:news=[]:=List.eq_nil_of_length_eq_zero (by simpa using hle);subst hn0
  refine wpList_copy_nothing hgd d s _ _ ho 5 Tryz.underlying23 size_u8m _ _ _ _ _ _ hd hs (by simp) ?_
  exact h w hown hb
 ·cases hv
  have hnl:(news.map byteV).length=news.length:=by simp
  have hz:cur.toList.length=c':=by rw[Array.length_toList,hcz,Nat.mul_one]
  refine wpList_copy_splice hgd d s _ _ ho 5 Tryz.underlying23 size_u8m _ _ _ _ _ _ hd hs g 0 cur.toList 5 (by simpa using hg) (news.map byteV) (by rw[hnl];exact(Nat.min_eq_left hle).symm) ?_ (by rw[hnl,hz];omega) (byteV_one _) base w0 hb hbse ?_
  ·intro hp
   obtain⟨b,off,e,hcell⟩:=hr (by intro h0;rw[h0]at hp;simp at hp)
   exact⟨rfl,_,e,fun j v hj=>by rw[addr_add];exact hcell j v hj⟩
  ·intro w' hG hB
   rw[hnl]
   refine h w' ?_ hB
   have hl:(news++l.drop news.length).length=l.length:=by rw[List.length_append,List.length_drop];omega
   refine⟨by simp,.inr ⟨g,c',(splice cur.toList 0 (news.map byteV)).toArray,by rw[hl],hbse,hG.out,by rw[hl];exact hc,hmx, ?_, ?_⟩⟩
   ·have:=length_splice cur.toList 0 (news.map byteV) (by rw[hnl,hz];omega);rw[hz]at this;rw[Nat.mul_one,← this]
    exact List.size_toArray
   ·rw[hl]
    simp only[List.toList_toArray]
    rw[splice_0,hnl,Nat.mul_one,List.take_append,hnl,List.take_of_length_le (by rw[hnl];exact hle),List.map_append,List.map_drop];congr 1
    rw[Nat.mul_one]at ht;rw[← ht,List.drop_take]
theorem kdf_join {A:Option Addr}{n c:Nat}{ls:List (List UInt8)}(hn:n=ls.length) (hl:ls.length≤1099511627000) (ht:ls.flatten.length≤1099511627000) (w:World) (hs:SrcR w A ls) :
  Calls Tryz.prog 54 #[.slice A n c] w fun e w'=>∃ r,e=.returned r∧Fresh w (ls.flatten) r w':=by
 have HN:=Hh (And.intro hn (And.intro hl ht));clear hn hl ht;go_enter Tryz.func54,Tryz.ntmps54
 have hO1:=OwnB.nil w w.heap.size;have hb1:=Below.refl w.heap.size w;go_wp2_with fail
 go_loopw [3,5,8] (fun v1 v5 v2 wr=>∃ (k:Nat) (VA:Option Addr) (vc vn:Nat) (l:List UInt8),k≤ls.length∧v2=.int .i64 (k:Int)∧v1=.slice VA vn vc∧OwnB wr w.heap.size (.slice VA vn vc) l∧vn=l.length∧(ls.flatten=l++(ls.drop k).flatten)∧Below w.heap.size w wr) (fun _ _ v2 _=>ls.length-(intOf v2).toNat)
 case atStart=>exact⟨0,_,_,_,_,Nat.zero_le _,rfl,rfl,hO1,rfl,by simp,hb1⟩
 case round =>
  clear hO1 hb1;obtain⟨k,VA,vc,vn,l,hkl,rfl,rfl,hOr,hvn,hel,hbr⟩:=hrel;have HV:=Hh hvn;have HE:=Hh hel;clear hvn hel
  by_cases hlt:k<ls.length
  ·obtain⟨ib,io,rfl,hr⟩:=hs (by omega);have hltz:(k:Int)<(n:Int):=by have:=HN.out.1;omega
   obtain⟨Aj,cj,c0,hsj⟩:=hr k hlt;have q0:=(hbr.cell (World.block_lt_of_cell? w _ c0)).trans c0;have hsr:=hsj.below hbr;have hk1:(k:Int)+1≤9223372036854775807:=by have:=HN.out.2.1;omega
   have HT:Hid (l.length+ls[k].length≤1099511627776):=by
    have h1:=congrArg List.length HE.out;rw[flatten_drop ls k hlt]at h1
    simp only[List.length_append]at h1
    have:=HN.out.2.2;skip
    rw[Hid];omega
   have HF:Hid (ls.flatten=(l++ls[k])++(ls.drop (k+1)).flatten):=by rw[Hid,HE.out,flatten_drop ls k hlt,List.append_assoc]
   clear hr c0 hsj;go_wp2_with (at_builtin;refine stop_in ?_)
   unfold Stopped
   obtain rfl:=HV.out
   refine wpList_app_bytes rfl (.tmp 12) (.tmp 13) rfl w.heap.size _ _ rfl hOr Aj _ cj ls[k] rfl rfl hsr HT.out hbr.size fun v' w7 hO7 hg7 hat7=>?_
   obtain⟨VA',vc',rfl,_⟩:=hO7.form;have hO7':OwnB w7 w.heap.size (.slice VA' (l.length+ls[k].length) vc') (l++ls[k]):=by rw[← List.length_append];exact hO7
   have hb7:=hbr.grown hg7 hbr.size (fun q hq=>(hOr.lt q hq).1);clear hOr hg7 hat7 hbr q0 hsr hO7;go_wp2_with fail
   go_roundw
   case rel=>exact⟨k+1,VA',vc',_,_,by omega,by go_num,rfl,hO7',by rw[List.length_append],HF.out,hb7⟩
   case measure=>simp[intOf];omega
  ·have hkk:k=ls.length:=by omega
   subst hkk;have hltz:¬ ((ls.length:Int)<(n:Int)):=by have:=HN.out.1;omega
   have HZ:Hid (ls.flatten=l):=by rw[Hid,HE.out,List.drop_length];simp
   go_wp2_with fail
   go_ret
   obtain rfl:=HV.out
   exact⟨_,rfl,by rw[HZ.out];exact⟨hOr,hbr⟩⟩
theorem kdf_masked {A:Option Addr}{c:Nat}{key:List UInt8}{n:Nat}(hn:n=key.length) (hmax:key.length≤1099511627) (m:Int) (w:World) (hS:Src w A (key.map byteV)) :
  Calls Tryz.prog 55 #[.slice A n c,.int .u8 m] w fun e w'=>∃ r,e=.returned r∧Fresh w (maskP m key) r w':=by
 have HN:=Hh (And.intro hn hmax);have HS:=Hh hS;have SM:=Hh (sha_Sum256 (c:=c) hn hmax w hS);clear hn hmax hS;go_enter Tryz.func55,Tryz.ntmps55
 go_upto_if 9 with fail
 go_cut [0] (fun s0 wx=>∃ (A1:Option Addr) (n1 c1:Nat),s0=.slice A1 n1 c1∧Hid (n1=(hkeyP key).length)∧Src wx A1 ((hkeyP key).map byteV)∧Below w.heap.size w wx)
 case first =>
  by_cases h64:n≤64
  ·have e:hkeyP key=key:=by rw[hkeyP,if_neg (by have:=HN.out.1;omega)]
   have h64i:¬ ((64:Int)<(n:Int)):=by omega
   go_wp2_with fail
   go_meet
   exact⟨A,n,c,rfl,by rw[Hid,e];exact HN.out.1,by rw[e];exact HS.out,Below.refl _ _⟩
  ·have e:hkeyP key=shaP key:=by rw[hkeyP,if_pos (by have:=HN.out.1;omega)]
   have h64i:(64:Int)<(n:Int):=by omega
   have HKE:=Hh e;clear e;go_wp2_with fail
   refine SM.out.mono ?_
   rintro e w1 ⟨r1,rfl,hf1⟩
   obtain⟨A1,c1,rfl,hjk⟩:=hf1.own.form;have hs1:=hf1.own.src;have hb1:=hf1.2;clear hjk hf1;obtain⟨n1,hn1⟩:∃ n1,(shaP key).length=n1:=⟨_,rfl⟩
   rw[hn1];have HN1:=Hh hn1;clear hn1;go_wp2_with fail
   go_meet
   exact⟨A1,n1,c1,rfl,by rw[Hid,HKE.out];exact HN1.out.symm,by rw[HKE.out];exact hs1,hb1⟩
 case rest =>
  clear SM;obtain⟨A1,n1,c1,rfl,HN1,hs1,hb1⟩:=hcut;have HKL:=Hh (hkeyP_len key);obtain⟨K,hK⟩:∃ K,hkeyP key=K:=⟨_,rfl⟩
  have HMP:Hid (maskP m key=(fillP K).map (xorB m)):=by rw[Hid,maskP,hK]
  rw[hK]at HN1 HKL hs1;obtain⟨i0,hi0,hz0,hz1,hz2⟩:=info_parts info_u8;clear hK;go_wp2_with (at_make;refine stop_in ?_)
  refine wpList_make_full _ rfl _ _ 23 rfl w.heap.size 5 i0 _ 1 Tryz.underlying23 hi0 hz0 hz1 _ _ _ _ 64 rfl rfl (by omega) (by omega) (by rw[hz2];omega) (by simp only[maxLen];omega) hb1.size fun w2 hO hg2=>?_
  have hb2:=hb1.trans ((grown_none hg2).mono hb1.size);have hs2:=hs1.below (grown_none hg2)
  have hO2:OwnB w2 w.heap.size (.slice (some ⟨wc.heap.size,0,none⟩) 64 64) (List.replicate 64 0):=by
   have h:w2.ownsRow w.heap.size 5 1 (.slice (some ⟨wc.heap.size,0,none⟩) 64 64) (List.replicate 64 (0:UInt8)).length ((List.replicate 64 (0:UInt8)).map byteV):=by
    rw[List.length_replicate,← made_zerosB]
    exact hO
   exact h
  obtain⟨G,hG⟩:∃ G,wc.heap.size=G:=⟨_,rfl⟩
  rw[hG]at hO2⊢;clear hi0 hz0 hz1 hz2 hO hg2 hs1 hb1 hG;go_wp2_with (with_reducible refine stop_copy ?_)
  refine wpList_copy_bytes rfl (.tmp 13) (.tmp 14) rfl w.heap.size _ _ _ _ rfl hO2 A1 n1 c1 K rfl HN1.out hs2 (by rw[List.length_replicate];exact HKL.out) w hb2 fun w3 hO3 hb3=>?_
  have hfl:K++(List.replicate 64 (0:UInt8)).drop K.length=fillP K:=by rw[fillP,List.drop_replicate]
  rw[hfl,← partX_0 m (fillP K)]at hO3;have HFL:=Hh (fillP_len HKL.out);clear hO2 hb2 hs2 hfl;go_wp2_with fail
  go_loopw [18] (fun v18 wr=>∃ i:Nat,v18=.int .i64 (i:Int)∧i≤64∧OwnB wr w.heap.size (.slice (some ⟨G,0,none⟩) 64 64) (partX m (fillP K) i)∧Below w.heap.size w wr) (fun v18 _=>(64-intOf v18).toNat)
  case atStart=>exact⟨0,rfl,by omega,hO3,hb3⟩
  case round =>
   clear hO3 hb3;obtain⟨i,rfl,hi,hO,hb⟩:=hrel
   by_cases hlt:(i:Int)<64
   ·have hi6:i<(fillP K).length:=by rw[HFL.out];omega
    have hpl:i<(partX m (fillP K) i).length:=by rw[partX_len];exact hi6
    have cl:wr.cell? ⟨G,i,none⟩=some (byteV (fillP K)[i]):=by
     obtain⟨b,off,e,hc⟩:=hO.src (by intro h;have:=congrArg List.length h;rw[List.length_map]at this;simp at this;rw[this]at hpl;simp at hpl)
     cases e
     have h:=hc i (byteV (partX m (fillP K) i)[i]) (by rw[List.getElem?_map,List.getElem?_eq_getElem hpl];rfl);rw[partX_get m hi6,Nat.zero_add]at h
     exact h
    have HXV:=Hh (xorB_val m (fillP K)[i]);have HPS:=Hh (partX_set m hi6);obtain⟨u,hu⟩:∃ u,(fillP K)[i]=u:=⟨_,rfl⟩
    rw[hu]at cl HXV HPS;obtain⟨gq,cur,e,hbg,hBq,hkc,hset⟩:=hO.store_ (k:=i) hpl
    cases e
    have HST:=Hh hset;clear hu hi6 hpl hset hO;go_wp2_with (with_reducible refine stop_store ?_)
    refine wpList_store_cell rfl _ _ _ rfl rfl G i (byteV (xorB m u)) rfl (by rw[HXV.out];rfl) _ _ hBq size_u8m hkc rfl fun w4 hB4 hg4=>?_
    have hO4:=HST.out w4 (xorB m u) hB4;rw[HPS.out]at hO4;have hb4:=below_of_grown hb hg4 (by rintro q ⟨⟩;exact hbg);clear hBq hg4 hb hB4 cl HST;go_wp2_with fail
    go_roundw
    case rel=>exact⟨i+1,by go_num,by omega,hO4,hb4⟩
    case measure=>simp[intOf];omega
   ·obtain rfl:i=64:=by omega
    rw[partX_all m (by rw[HFL.out];exact Nat.le_refl _),← HMP.out]at hO;rw[show((64:Nat):Int)=64 from rfl]at hlt⊢;go_wp2_with fail
    go_ret
    exact⟨_,rfl,hO,hb⟩
theorem SrcR.lit2 (w:World) (t:TypeId) {A1 A2:Option Addr}{n1 c1 n2 c2:Nat}{l1 l2:List UInt8}(e1:n1=l1.length) (e2:n2=l2.length) (h1:Src w A1 (l1.map byteV)) (h2:Src w A2 (l2.map byteV)) :
  SrcR (w.alloc (.cells #[.slice A1 n1 c1,.slice A2 n2 c2] t)) (some ⟨w.heap.size,0,none⟩) [l1,l2]:=fun _=>by
 have hB:=Blk.new w t #[.slice A1 n1 c1,.slice A2 n2 c2]
 refine⟨w.heap.size,0,rfl,fun j hj=>?_⟩
 subst e1 e2
 match j,hj with
 | 0,_=>exact⟨A1,c1,hB.cell 0 rfl,h1.alloc _⟩
 | 1,_=>exact⟨A2,c2,hB.cell 1 rfl,h2.alloc _⟩
theorem kdf_HMAC {A:Option Addr}{c:Nat}{key:List UInt8}{n:Nat}(hn:n=key.length) (hmax:key.length≤1099511627) {B:Option Addr}{d:Nat}{b:List UInt8}{k:Nat}(hk:k=b.length) (hmb:b.length≤1099511000) (w:World) (hS:Src w A (key.map byteV)) (hT:Src w B (b.map byteV)) :
  Calls Tryz.prog 24 #[.slice A n c,.slice B k d] w fun e w'=>∃ r,e=.returned r∧Fresh w (hmacP key b) r w':=by
 have HN:=Hh (And.intro hn (And.intro hk hmb));have HS:=Hh hS;have HT:=Hh hT;have M1:=Hh (fun(m:Int) w (hS:Src w A (key.map byteV))=>kdf_masked (c:=c) hn hmax m w hS);clear hn hmax hk hmb hS hT;go_enter Tryz.func24,Tryz.ntmps24
 go_wp2_with fail
 refine(M1.out 92 _ HS.out).mono ?_
 rintro e w1 ⟨r1,rfl,hf1⟩
 obtain⟨A1,c1,rfl,_⟩:=hf1.own.form;rw[maskP_len];have hb1:=hf1.2;have hs1:=hf1.own.src;clear hf1;go_wp2_with fail
 refine(M1.out 54 _ (HS.out.below hb1)).mono ?_
 rintro e w2 ⟨r2,rfl,hf2⟩
 obtain⟨A2,c2,rfl,_⟩:=hf2.own.form;rw[maskP_len];have hb2:=hb1.trans (hf2.2.mono hb1.size);have hs1b:=hs1.below hf2.2;have hl2:=SrcR.lit2 (c1:=c2) (c2:=d) w2 23 (maskP_len 54 key).symm HN.out.2.1 hf2.own.src (HT.out.below hb2);have hb3:=hb2.alloc hb2.size (.cells #[.slice A2 64 c2,.slice B k d] 23);have hs1c:=hs1b.alloc (.cells #[.slice A2 64 c2,.slice B k d] 23);obtain⟨P,hP⟩:∃ P,w2.heap.size=P:=⟨_,rfl⟩
 rw[hP]at hl2;have HP:=Hh hP;obtain⟨w3,hw3⟩:∃ w3,w2.alloc (.cells #[.slice A2 64 c2,.slice B k d] 23)=w3:=⟨_,rfl⟩
 rw[hw3]at hl2 hb3 hs1c;have HW3:=Hh hw3;have JN:=Hh (kdf_join (n:=2) (c:=2) rfl (by simp) (by simp[maskP_len];have:=HN.out.2.2;omega) w3 hl2);clear hP hw3 hl2 hs1 hs1b hb1 hb2 hf2 M1;go_wp2_with fail
 rw[HW3.out,HP.out]
 refine JN.out.mono ?_
 rintro e w4 ⟨r4,rfl,hf4⟩
 rw[show [maskP 54 key,b].flatten=maskP 54 key++b by simp]at hf4;have HI0:Hid ((maskP 54 key++b).length≤1099511627):=by rw[Hid,List.length_append,maskP_len];have:=HN.out.2.2;omega
 obtain⟨I,hI⟩:∃ I,maskP 54 key++b=I:=⟨_,rfl⟩
 have HI:=Hh hI;rw[hI]at hf4 HI0;obtain⟨A4,c4,rfl,_⟩:=hf4.own.form;obtain⟨m4,hm4⟩:∃ m,I.length=m:=⟨_,rfl⟩
 rw[hm4];have SM:=Hh (sha_Sum256 (c:=c4) hm4.symm HI0.out w4 hf4.own.src);have hb4:=hb3.trans (hf4.2.mono hb3.size);have hs4:=hs1c.below hf4.2;clear hI hm4 hf4 hb3 hs1c JN;go_wp2_with fail
 refine SM.out.mono ?_
 rintro e w5 ⟨r5,rfl,hf5⟩
 obtain⟨A5,c5,rfl,_⟩:=hf5.own.form;rw[shaP_len];have hb5:=hb4.trans (hf5.2.mono hb4.size);have hs5:=hs4.below hf5.2;have hl5:=SrcR.lit2 (c1:=c1) (c2:=c5) w5 23 (maskP_len 92 key).symm (shaP_len I).symm hs5 hf5.own.src;have hb6:=hb5.alloc hb5.size (.cells #[.slice A1 64 c1,.slice A5 32 c5] 23);obtain⟨P5,hP5⟩:∃ P,w5.heap.size=P:=⟨_,rfl⟩
 rw[hP5]at hl5;have HP5:=Hh hP5;obtain⟨w6,hw6⟩:∃ w6,w5.alloc (.cells #[.slice A1 64 c1,.slice A5 32 c5] 23)=w6:=⟨_,rfl⟩
 rw[hw6]at hl5 hb6;have HW6:=Hh hw6;have JN:=Hh (kdf_join (n:=2) (c:=2) rfl (by simp) (by simp[maskP_len,shaP_len]) w6 hl5);clear hP5 hw6 hl5 hs4 hs5 hb4 hb5 hf5 SM;go_wp2_with fail
 rw[HW6.out,HP5.out]
 refine JN.out.mono ?_
 rintro e w7 ⟨r7,rfl,hf7⟩
 rw[show [maskP 92 key,shaP I].flatten=maskP 92 key++shaP I by simp]at hf7;obtain⟨O,hO⟩:∃ O,maskP 92 key++shaP I=O:=⟨_,rfl⟩
 have HO:Hid (shaP O=hmacP key b∧O.length=96):=by
  rw[Hid,← hO]
  refine⟨by rw[hmacP,← HI.out],by rw[List.length_append,maskP_len,shaP_len]⟩
 rw[hO]at hf7;obtain⟨A7,c7,rfl,_⟩:=hf7.own.form;rw[HO.out.2];have SM:=Hh (sha_Sum256 (c:=c7) (n:=96) HO.out.2.symm (by rw[HO.out.2];omega) w7 hf7.own.src);have hb7:=hb6.trans (hf7.2.mono hb6.size);clear hO hf7 hb6 JN;go_wp2_with fail
 refine SM.out.mono ?_
 rintro e w8 ⟨r8,rfl,hf8⟩
 have ho:=hf8.own.more (base':=w.heap.size) hb7.size;have hb8:=hb7.trans (hf8.2.mono hb7.size);clear hf8 hb7 SM;go_wp2_with fail
 go_ret
 exact⟨_,rfl,by rw[← HO.out.1];exact⟨ho,hb8⟩⟩
def Apart (v u:Value):Prop:=∀ q,v.ownBlock=some q→u.ownBlock=some q→False
theorem Apart.ne {v u:Value}(h:Apart v u):u.ownBlock=none∨u.ownBlock≠v.ownBlock:=by
 cases hu:u.ownBlock with
 | none=>exact .inl rfl
 | some q=>exact .inr (fun e=>h q e.symm hu)
theorem Apart.step {v u v':Value}{w:World}{base:Nat}{l:List UInt8}(h:Apart v u) (hO:OwnB w base u l) (hat:At0 w v.ownBlock v'.ownBlock):Apart v' u:=by
 intro q hq hu
 rcases hat with e | ⟨g,e,hg⟩
 ·exact h q (e ▸ hq) hu
 ·rw[hq]at e;injection e with e
  subst e;have:=(hO.lt q hu).2
  omega
theorem Apart.symm {v u:Value}(h:Apart v u):Apart u v:=fun q h1 h2=>h q h2 h1
theorem take_snocB {l:List UInt8}{i:Nat}(h:i<l.length) (m:Int):(l.take i).map (xorB m)++[xorB m l[i]]=(l.take (i+1)).map (xorB m):=by
 rw[List.take_succ_eq_append_getElem h,List.map_append];rfl
theorem ref05_HMAC {A:Option Addr}{c:Nat}{key:List UInt8}{n:Nat}(hn:n=key.length) (hmax:key.length≤1099511627) {B:Option Addr}{d:Nat}{b:List UInt8}{k:Nat}(hk:k=b.length) (hmb:b.length≤1099511000) (w:World) (hS:Src w A (key.map byteV)) (hT:Src w B (b.map byteV)) :
  Calls Tryz.prog 28 #[.slice A n c,.slice B k d] w fun e w'=>∃ r,e=.returned r∧Fresh w (hmacP key b) r w':=by
 have HN:=Hh (And.intro hn (And.intro hmax (And.intro hk hmb)));have HS:=Hh hS;have HT:=Hh hT;clear hn hmax hk hmb hS hT;go_enter Tryz.func28,Tryz.ntmps28
 go_wp2_with (at_builtin;refine stop_in ?_)
 refine wpList_app_bytes rfl (.const (.slice none 0 0)) (.tmp 10) rfl w.heap.size (.slice none 0 0) [] rfl (OwnB.nil _ _) A n c key rfl HN.out.1 HS.out (by have:=HN.out.2.1;simp;omega) (Nat.le_refl _) fun v1 w1 hO1 hg1 hat1=>?_
 rw[List.nil_append]at hO1;have hb1:=grown_none (by simpa [Value.ownBlock] using hg1);obtain⟨A1,c1,rfl,_⟩:=hO1.form;rw[← HN.out.1]at hO1⊢;have SM:=Hh (ref_Sum256 (c:=c1) HN.out.1 HN.out.2.1 w1 hO1.src);clear hg1 hat1;go_upto_if 14 with fail
 go_cut [5] (fun s5 wx=>∃ (A2:Option Addr) (n2 c2:Nat),s5=.slice A2 n2 c2∧Hid (n2=(hkeyP key).length)∧OwnB wx w.heap.size (.slice A2 n2 c2) (hkeyP key)∧Below w.heap.size w wx)
 case first =>
  by_cases h64:n≤64
  ·have e:hkeyP key=key:=by rw[hkeyP,if_neg (by have:=HN.out.1;omega)]
   have h64i:¬ ((64:Int)<(n:Int)):=by omega
   have HKE:=Hh e;clear e;go_wp2_with fail
   go_meet
   exact⟨A1,n,c1,rfl,by rw[Hid,HKE.out];exact HN.out.1,by rw[HKE.out];exact hO1,hb1⟩
  ·have e:hkeyP key=shaP key:=by rw[hkeyP,if_pos (by have:=HN.out.1;omega)]
   have h64i:(64:Int)<(n:Int):=by omega
   have HKE:=Hh e;clear e;go_wp2_with fail
   refine SM.out.mono ?_
   rintro e w2 ⟨r2,rfl,hf2⟩
   obtain⟨A2,c2,rfl,_⟩:=hf2.own.form;have ho:=hf2.own.more (base':=w.heap.size) hb1.size;have hb2:=hb1.trans (hf2.2.mono hb1.size);obtain⟨n1,hn1⟩:∃ n1,(shaP key).length=n1:=⟨_,rfl⟩
   rw[hn1]at ho⊢;have HN1:=Hh hn1;clear hn1 hf2;go_wp2_with fail
   go_meet
   exact⟨A2,n1,c2,rfl,by rw[Hid,HKE.out];exact HN1.out.symm,by rw[HKE.out];exact ho,hb2⟩
 case rest =>
  clear SM hO1 hb1;obtain⟨A2,n2,c2,rfl,HN2,hO2,hb2⟩:=hcut;have HKL:=Hh (hkeyP_len key);have HM54:Hid (maskP 54 key=(fillP (hkeyP key)).map (xorB 54)):=rfl;have HM92:Hid (maskP 92 key=(fillP (hkeyP key)).map (xorB 92)):=rfl;obtain⟨K,hK⟩:∃ K,hkeyP key=K:=⟨_,rfl⟩
  rw[hK]at HN2 HKL hO2 HM54 HM92;clear hK;go_wp2_with fail
  go_loopw [5] (fun v5 wr=>∃ (z nz cz:Nat) (AZ:Option Addr),v5=.slice AZ nz cz∧Hid (nz=K.length+z∧z≤64-K.length)∧OwnB wr w.heap.size (.slice AZ nz cz) (K++List.replicate z 0)∧Below w.heap.size w wr) (fun v5 _=>64-lenS v5)
  case atStart=>exact⟨0,n2,c2,A2,rfl,⟨HN2.out,Nat.zero_le _⟩,by simpa using hO2,hb2⟩
  case round =>
   clear hO2 hb2;obtain⟨z,nz,cz,AZ,rfl,HZ,hO,hb⟩:=hrel
   by_cases hlt:(nz:Int)<64
   ·have hO1:=hO.alloc (.cells #[.int .u8 0] 5);have hb1:=hb.alloc hb.size (.cells #[.int .u8 0] 5);have HLZ:Hid ((K++List.replicate z (0:UInt8)).length=nz):=by rw[Hid,List.length_append,List.length_replicate,HZ.out.1]
    go_wp2_with (at_builtin;refine stop_in ?_)
    refine wpList_app_bytes rfl (.tmp 20) (.tmp 21) rfl w.heap.size _ _ rfl hO1 _ 1 _ [0] rfl rfl (Src.new _ _ _ _ rfl _ rfl) (by rw[HLZ.out];simp only[List.length_singleton];omega) hb1.size fun v' w5 hO5 hg5 hat5=>?_
    have hb5:=below_of_grown hb1 hg5 (fun q hq=>(hO.lt q hq).1);rw[List.append_assoc,← List.replicate_succ']at hO5;obtain⟨A5,c5,rfl,_⟩:=hO5.form;have HL5:Hid ((K++List.replicate (z+1) (0:UInt8)).length=nz+1):=by rw[Hid,List.length_append,List.length_replicate];have:=HZ.out.1;omega
    rw[HL5.out]at hO5⊢;clear hO hb hO1 hb1 hg5 hat5;go_wp2_with fail
    go_roundw
    case rel=>exact⟨z+1,nz+1,c5,A5,rfl,⟨by have:=HZ.out.1;omega,by have:=HZ.out;have:=HKL.out;omega⟩,hO5,hb5⟩
    case measure=>simp only[lenS];omega
   ·have hz:z=64-K.length:=by have:=HZ.out;have:=HKL.out;omega
    have hnz:nz=64:=by have:=HZ.out;have:=HKL.out;omega
    rw[hz]at hO;have HFL:=Hh (fillP_len HKL.out);obtain⟨F,hF⟩:∃ F,fillP K=F:=⟨_,rfl⟩
    have hO':OwnB wr w.heap.size (.slice AZ nz cz) F:=by rw[← hF];exact hO
    rw[hF]at HM54 HM92 HFL;subst hnz;obtain⟨W0,hW0⟩:∃ W,W=wr:=⟨_,rfl⟩
    subst hW0;have HSF:=Hh hO'.src;have HBW:=Hh hb;have hbr:=Below.refl W0.heap.size W0;clear hO hO' hF hz hb hlt;go_wp2_with fail
    go_loopw [6,7,25] (fun v6 v7 v25 wx=>∃ (j ni ci no co:Nat) (AI AO:Option Addr),v6=.slice AI ni ci∧v7=.slice AO no co∧v25=.int .i64 (j:Int)∧Hid (j≤64∧ni=j∧no=j)∧OwnB wx W0.heap.size (.slice AI ni ci) ((F.take j).map (xorB 54))∧OwnB wx W0.heap.size (.slice AO no co) ((F.take j).map (xorB 92))∧Apart (.slice AI ni ci) (.slice AO no co)∧Below W0.heap.size W0 wx) (fun _ _ v25 _=>(64-intOf v25).toNat)
    case atStart=>exact⟨0,0,0,0,0,none,none,rfl,rfl,rfl,⟨by omega,rfl,rfl⟩,OwnB.nil _ _,OwnB.nil _ _,(fun q hq=>by cases hq),hbr⟩
    case round =>
     clear hbr;obtain⟨j,ni,ci,no,co,AI,AO,rfl,rfl,rfl,HJ,hI,hO,hap,hb⟩:=hrel
     by_cases hlt:(j:Int)<64
     ·have hjf:j<F.length:=by rw[HFL.out];omega
      obtain⟨fb,fo,rfl,hcl⟩:=(HSF.out.below hb) (by intro h;have:=congrArg List.length h;rw[List.length_map]at this;simp at this;rw[this]at hjf;simp at hjf)
      have cl:wr.cell? ⟨fb,fo+j,none⟩=some (byteV F[j]):=hcl j _ (by rw[List.getElem?_map,List.getElem?_eq_getElem hjf];rfl);have HX54:=Hh (xorB_val 54 F[j]);have HX92:=Hh (xorB_val 92 F[j]);have HT54:=Hh (take_snocB hjf 54);have HT92:=Hh (take_snocB hjf 92);obtain⟨u,hu⟩:∃ u,F[j]=u:=⟨_,rfl⟩
      rw[hu]at cl HX54 HX92 HT54 HT92
      have HLF:Hid (((F.take j).map (xorB 54)).length=j∧((F.take j).map (xorB 92)).length=j∧((F.take (j+1)).map (xorB 54)).length=j+1∧((F.take (j+1)).map (xorB 92)).length=j+1):=by
       rw[Hid]
       simp only[List.length_map,List.length_take,HFL.out]
       omega
      have hI1:=hI.alloc (.cells #[byteV (xorB 54 u)] 5);have hO1:=hO.alloc (.cells #[byteV (xorB 54 u)] 5);have hb1:=hb.alloc hb.size (.cells #[byteV (xorB 54 u)] 5);rw[HX54.out]at hI1 hO1 hb1;clear hu hcl hjf;go_wp2_with (at_builtin;refine stop_in ?_)
      refine wpList_app_bytes rfl (.tmp 29) (.tmp 32) rfl W0.heap.size (.slice AI ni ci) _ rfl hI1 _ 1 _ [xorB 54 u] rfl rfl (Src.new _ _ _ _ rfl _ (by simp only[List.map_cons,List.map_nil];rw[HX54.out])) (by rw[HLF.out.1];simp only[List.length_singleton];omega) hb1.size fun vi w5 hI5 hg5 hat5=>?_
      have hb5:=below_of_grown hb1 hg5 (fun q hq=>(hI.lt q hq).1);have hO5:=hO1.kept hg5 hap.ne;have hap5:=hap.step hO1 hat5;rw[HT54.out]at hI5;obtain⟨A5,c5,rfl,_⟩:=hI5.form;rw[HLF.out.2.2.1]at hI5 hap5⊢;have hI6:=hI5.alloc (.cells #[byteV (xorB 92 u)] 5);have hO6:=hO5.alloc (.cells #[byteV (xorB 92 u)] 5);have hb6:=hb5.alloc hb5.size (.cells #[byteV (xorB 92 u)] 5);rw[HX92.out]at hI6 hO6 hb6;clear hI hO hI1 hO1 hb1 hg5 hat5 hap hb cl;go_wp2_with (at_builtin;refine stop_in ?_)
      refine wpList_app_bytes rfl (.tmp 34) (.tmp 37) rfl W0.heap.size (.slice AO no co) _ rfl hO6 _ 1 _ [xorB 92 u] rfl rfl (Src.new _ _ _ _ rfl _ (by simp only[List.map_cons,List.map_nil];rw[HX92.out])) (by rw[HLF.out.2.1];simp only[List.length_singleton];omega) hb6.size fun vo w7 hO7 hg7 hat7=>?_
      have hb7:=below_of_grown hb6 hg7 (fun q hq=>(hO5.lt q hq).1);have hI7:=hI6.kept hg7 hap5.symm.ne;have hap7:=(hap5.symm.step hI6 hat7).symm;rw[HT92.out]at hO7;obtain⟨A7,c7,rfl,_⟩:=hO7.form;rw[HLF.out.2.2.2]at hO7 hap7⊢;clear hI5 hO5 hI6 hO6 hb5 hb6 hg7 hat7 hap5;go_wp2_with fail
      go_roundw
      case rel=>exact⟨j+1,j+1,c5,j+1,c7,A5,A7,rfl,rfl,by go_num,⟨by omega,rfl,rfl⟩,hI7,hO7,hap7,hb7⟩
      case measure=>simp[intOf];omega
     ·have hj64:j=64:=by have:=HJ.out.1;omega
      have hni:ni=64:=by have:=HJ.out;omega
      have hno:no=64:=by have:=HJ.out;omega
      subst hj64 hni hno;rw[List.take_of_length_le (by rw[HFL.out];exact Nat.le_refl _),← HM54.out]at hI;rw[List.take_of_length_le (by rw[HFL.out];exact Nat.le_refl _),← HM92.out]at hO;have hbw:=HBW.out.trans (hb.mono HBW.out.size);have HLI:Hid ((maskP 54 key).length+b.length≤1099511627):=by rw[Hid,maskP_len];have:=HN.out.2.2.2;omega
      rw[show((64:Nat):Int)=64 from rfl]at hlt⊢;go_wp2_with (at_builtin;refine stop_in ?_)
      refine wpList_app_bytes rfl (.tmp 41) (.tmp 42) rfl W0.heap.size (.slice AI 64 ci) _ rfl hI B k d b rfl HN.out.2.2.1 (HT.out.below hbw) (by have:=HLI.out;omega) hb.size fun vi w5 hI5 hg5 hat5=>?_
      have hb5:=below_of_grown hb hg5 (fun q hq=>(hI.lt q hq).1);have hO5:=hO.kept hg5 hap.ne;have HI1:Hid (shaP (maskP 92 key++shaP (maskP 54 key++b))=hmacP key b):=rfl;rw[← List.length_append]at HLI;obtain⟨I,hIe⟩:∃ I,maskP 54 key++b=I:=⟨_,rfl⟩
      rw[hIe]at hI5 HI1 HLI;obtain⟨A5,c5,rfl,_⟩:=hI5.form;obtain⟨m5,hm5⟩:∃ m,I.length=m:=⟨_,rfl⟩
      rw[hm5]at hI5⊢;have SM:=Hh (ref_Sum256 (c:=c5) hm5.symm HLI.out w5 hI5.src);clear hI hO hap hb hg5 hat5 hIe hI5 hm5;go_wp2_with fail
      refine SM.out.mono ?_
      rintro e w6 ⟨r6,rfl,hf6⟩
      obtain⟨A6,c6,rfl,_⟩:=hf6.own.form;rw[shaP_len];have hO6:=hO5.below hf6.2;have hb6:=hb5.trans (hf6.2.mono hb5.size);have hs6:=hf6.own.src;clear hO5 hb5 hf6 SM;go_wp2_with (at_builtin;refine stop_in ?_)
      refine wpList_app_bytes rfl (.tmp 40) (.tmp 44) rfl W0.heap.size (.slice AO 64 co) _ rfl hO6 A6 32 c6 (shaP I) rfl (shaP_len _).symm hs6 (by rw[maskP_len,shaP_len];omega) hb6.size fun vo w7 hO7 hg7 hat7=>?_
      have hb7:=below_of_grown hb6 hg7 (fun q hq=>(hO6.lt q hq).1);have HLO:Hid ((maskP 92 key++shaP I).length=96):=by rw[Hid,List.length_append,maskP_len,shaP_len]
      obtain⟨O,hOe⟩:∃ O,maskP 92 key++shaP I=O:=⟨_,rfl⟩
      rw[hOe]at hO7 HLO HI1;obtain⟨A7,c7,rfl,_⟩:=hO7.form;rw[HLO.out]at hO7⊢;have SM:=Hh (ref_Sum256 (c:=c7) (n:=96) HLO.out.symm (by rw[HLO.out];omega) w7 hO7.src);have hbz:=HBW.out.trans (hb7.mono HBW.out.size);clear hO6 hb6 hs6 hg7 hat7 hOe hO7 hb7 hbw;go_wp2_with fail
      refine SM.out.mono ?_
      rintro e w8 ⟨r8,rfl,hf8⟩
      have ho:=hf8.own.more (base':=w.heap.size) hbz.size;have hb8:=hbz.trans (hf8.2.mono hbz.size);clear hf8 hbz SM;go_wp2_with fail
      go_ret
      exact⟨_,rfl,by rw[← HI1.out];exact⟨ho,hb8⟩⟩
theorem validH_labels {p u:Itm}(h:validH p u=true):(∀ q∈pairsOf p.items,labelP q.1=true)∧(∀ q∈pairsOf u.items,labelP q.1=true):=by
 simp[validH,okMap]at h
 have h1:=h.1.1.1.1.2;have h2:=h.1.1.1.2.2;rw[permL_pairs,List.all_eq_true]at h1 h2
 exact⟨fun q hq=>perm_label (h1 q hq),fun q hq=>perm_label (h2 q hq)⟩
theorem findH_eq {p u:Itm}(hv:validH p u=true) (np:Nums p) (nu:Nums u) (j:Nat) (hj:j<100):findH p u (j:Int)=findR p u (j:Int):=by
 obtain⟨vp,vu,hp5,hu5⟩:=validH_valid hv;obtain⟨lp,lu⟩:=validH_labels hv;have N2:Nums (intP (j:Int)):=by rw[intP_nat,Nums,NumsL];exact⟨by omega,trivial⟩
 rw[findH,findR,findP_at hp5 vp np lp (validP_int j) N2,findP_at hu5 vu nu lu (validP_int j) N2]
 all_goals cases atL (intP (j:Int)) p.items <;> rfl
def getH (p u:Itm) (n:Int):Option Itm:=if validH p u=true then findH p u n else none
theorem findR_modest {p u x:Itm}(vp:validP p=true) (vu:validP u=true) {n:Int}(h:findR p u n=some x):Modest x:=by
 have one:∀ {m y:Itm},validP m=true→atL (intP n) m.items=some y→Modest y:=by
  intro m y vm hy
  rw[atL_pairs]at hy
  cases hx:(pairsOf m.items).find? (fun p=>sameB p.1 (intP n)) with
  | none=>rw[hx]at hy;cases hy
  | some q =>
   rw[hx]at hy;injection hy with hy
   rw[← hy]
   exact validP_modest (validP_elem vm (pairsOf_mem (List.mem_of_find?_eq_some hx)).2)
 unfold findR at h
 cases hq:atL (intP n) p.items with
 | some y =>
  rw[hq]at h;injection h with h
  rw[← h]
  exact one vp hq
 | none =>
  rw[hq]at h
  exact one vu h
theorem findR_modest' {p u:Itm}(vp:validP p=true) (vu:validP u=true) {n:Int}:Modest ((findR p u n).getD zeroItm):=by
 cases h:findR p u n with
 | some x=>exact findR_modest vp vu h
 | none=>show Modest zeroItm;rw[Modest,ModestL];simp
def algV (x:Itm):Int:=if x.kind=1 then IntKind.i64.wrap (-1-IntKind.i64.wrap (x.n:Int)) else IntKind.i64.wrap (x.n:Int)
def algP (p u:Itm):Int:=match getH p u 1 with
 | some x=>algV x
 | none=>0
def tagN (g:Int):Nat:=if g=4 then 8 else if g=5 then 32 else 0
theorem map_is {p:Itm}(h:validP p=true) (h5:p.kind=5):p=.mk 5 0 [] p.items∧p.items.length%2=0∧ascP p.items=true:=by
 have hg:=((validP_iff p).1 h).1;have hf:=frameOk_spec (frame_of hg (by omega));have hb:p.bytes=[]:=List.length_eq_zero_iff.1 hf.2.2.2.1;have ha:=hg.asc h5;have hn:=hf.2.2.2.2.2.1 (by omega);have he:=hf.2.2.2.2.2.2 h5;obtain⟨k,n,b,l⟩:=p
 simp only[Itm.kind,Itm.bytes,Itm.items,Itm.n]at h5 hb hn he ha⊢
 subst h5 hb hn
 exact⟨rfl,he,ha⟩
def GetOut (w:World) (H:Snap) (o:Option Itm) (e:Ending) (w':World):Prop:=∃ v,e=.returned (.tuple #[v,.bool o.isSome])∧Gives w H (o.getD zeroItm) v w'
theorem header_Get {H:Snap}(hTab:Tabs H) {p u:Itm}{a b:Ad}(hp:IsItem H a.ba a.bc a.ia a.ic p) (hu:IsItem H b.ba b.bc b.ia b.ic u) (j:Nat) (hj:j<100) (w:World) (hH:Holds w H) :
  Calls Tryz.prog 51 #[.agg (hdrC p a u b),.int .i64 (j:Int)] w (GetOut w H (getH p u (j:Int))):=by
 have hB:=(Blk.new w 28 (hdrC p a u b)).alloc zeroO;have hT:=Blk.new (w.alloc (.cells (hdrC p a u b) 28)) 26 #[.int .i64 0,.int .u64 0,.slice none 0 0,.slice none 0 0]
 simp only[size_alloc]at hT
 have hG:=((Grows.refl hH).alloc (.cells (hdrC p a u b) 28)).alloc zeroO;have hTn:H (w.heap.size+1)=none:=hH.none_of_ge (by omega);have V:=Hh (header_Valid hTab hp hu _ hG.holds);have HP:=Hh hp;have HU:=Hh hu;have HT:=Hh hTab;clear hp hu hTab hH;have c0:=hB.cell 0 rfl;have c1:=hB.cell 1 rfl;have c2:=hB.cell 2 rfl;have c3:=hB.cell 3 rfl;have c4:=hB.cell 4 rfl;have c5:=hB.cell 5 rfl;have c6:=hB.cell 6 rfl;have c7:=hB.cell 7 rfl;go_enter Tryz.func51,Tryz.ntmps51
 go_wp2_with fail
 refine V.out.mono ?_
 rintro e w2 ⟨rfl,hb2⟩
 replace hB:=hB.below hb2;replace hT:=hT.below hb2;have hG2:=hG.below_ hb2;clear V hG hb2 c0 c1 c2 c3 c4 c5 c6 c7;have hv0:∀ (o:Option Itm),getH p u (j:Int)=o→Hid (getH p u (j:Int)=o):=fun _ h=>h
 cases hv:validH p u with
 | false =>
  have E:=Hh (show getH p u (j:Int)=none by rw[getH,hv];rfl);clear hv hB hv0;go_wp2_with (with_reducible refine stop_store ?_)
  refine stI hT fun w9 hT9 hg9=>?_
  have hG9:=hG2.grownOwn hTn (by omega) hg9;go_wp2_with fail
  refine ret_row_tmp rfl rfl hT9 rfl rfl size_item rfl ?_
  exact⟨_,by rw[E.out];rfl,by rw[E.out];exact⟨none,0,none,0,H,rfl,hG9,IsItem.plain H 0 0 (by omega) (by omega)⟩⟩
 | true =>
  have E:=Hh (show getH p u (j:Int)=findH p u (j:Int) by rw[getH,if_pos hv]);have C:=Hh (header_find HT.out HP.out HU.out (j:Int) (by omega) (by omega) _ hG2.holds);clear hv hv0;have c0:=hB.cell 0 rfl;have c1:=hB.cell 1 rfl;have c2:=hB.cell 2 rfl;have c3:=hB.cell 3 rfl;have c4:=hB.cell 4 rfl;have c5:=hB.cell 5 rfl;have c6:=hB.cell 6 rfl;have c7:=hB.cell 7 rfl;obtain⟨o,ho⟩:∃ o,findH p u (j:Int)=o:=⟨_,rfl⟩
  rw[ho]at C ;have EO:=Hh (E.out.trans ho);clear hB ho E;go_wp2_with fail
  refine C.out.mono ?_
  rintro e w3 ⟨v3,rfl,xa,xb,xc,xd,H3,rfl,hG3,hI3⟩
  have hG4:=hG2.trans hG3;have hTn3:=hG3.none hTn hT.lt;replace hT:=hT.below hG3.below;clear C hG3 c0 c1 c2 c3 c4 c5 c6 c7;obtain⟨q,hq⟩:∃ q,o.isSome=q:=⟨_,rfl⟩
  rw[hq];have HQ:=Hh hq;clear hq;go_wp2_with (with_reducible refine stop_store ?_)
  refine stI hT fun w9 hT9 hg9=>?_
  have hG9:=hG4.grownOwn hTn3 (by omega) hg9;go_wp2_with fail
  refine ret_row_tmp rfl rfl hT9 rfl rfl size_item rfl ?_
  exact⟨_,by rw[EO.out,HQ.out];rfl,by rw[EO.out];exact⟨xa,xb,xc,xd,H3,rfl,hG9,hI3⟩⟩
theorem ref12_Get {H:Snap}(hTab:Tabs H) {p u:Itm}{a b:Ad}(hp:IsItem H a.ba a.bc a.ia a.ic p) (hu:IsItem H b.ba b.bc b.ia b.ic u) (j:Nat) (hj:j<100) (w:World) (hH:Holds w H) :
  Calls Tryz.prog 56 #[.agg (hdrC p a u b),.int .i64 (j:Int)] w (GetOut w H (getH p u (j:Int))):=by
 have hB:=(Blk.new w 28 (hdrC p a u b)).alloc zeroO;have hT:=Blk.new (w.alloc (.cells (hdrC p a u b) 28)) 26 #[.int .i64 0,.int .u64 0,.slice none 0 0,.slice none 0 0]
 simp only[size_alloc]at hT
 have hG:=((Grows.refl hH).alloc (.cells (hdrC p a u b) 28)).alloc zeroO;have hTn:H (w.heap.size+1)=none:=hH.none_of_ge (by omega);have V:=Hh (ref12_ValidH hTab hp hu _ hG.holds);have HP:=Hh hp;have HU:=Hh hu;have HT:=Hh hTab;clear hp hu hTab hH;have c0:=hB.cell 0 rfl;have c1:=hB.cell 1 rfl;have c2:=hB.cell 2 rfl;have c3:=hB.cell 3 rfl;have c4:=hB.cell 4 rfl;have c5:=hB.cell 5 rfl;have c6:=hB.cell 6 rfl;have c7:=hB.cell 7 rfl;go_enter Tryz.func56,Tryz.ntmps56
 go_wp2_with fail
 refine V.out.mono ?_
 rintro e w2 ⟨rfl,hb2⟩
 replace hB:=hB.below hb2;replace hT:=hT.below hb2;have hG2:=hG.below_ hb2;clear V hG hb2 c0 c1 c2 c3 c4 c5 c6 c7;have hv0:∀ (o:Option Itm),getH p u (j:Int)=o→Hid (getH p u (j:Int)=o):=fun _ h=>h
 cases hv:validH p u with
 | false =>
  have E:=Hh (show getH p u (j:Int)=none by rw[getH,hv];rfl);clear hv hB hv0;go_wp2_with (with_reducible refine stop_store ?_)
  refine stI hT fun w9 hT9 hg9=>?_
  have hG9:=hG2.grownOwn hTn (by omega) hg9;go_wp2_with fail
  refine ret_row_tmp rfl rfl hT9 rfl rfl size_item rfl ?_
  exact⟨_,by rw[E.out];rfl,by rw[E.out];exact⟨none,0,none,0,H,rfl,hG9,IsItem.plain H 0 0 (by omega) (by omega)⟩⟩
 | true =>
  have E:=Hh (show getH p u (j:Int)=findR p u (j:Int) by rw[getH,if_pos hv,findH_eq hv HP.out.nums HU.out.nums j hj]);have hmo:=findR_modest' (validH_valid hv).1 (validH_valid hv).2.1 (n:=(j:Int));have C:=Hh (ref_find (validP_modest (validH_valid hv).1) (validP_modest (validH_valid hv).2.1) HP.out HU.out (j:Int) (by omega) (by omega) _ hG2.holds);clear hv hv0;have c0:=hB.cell 0 rfl;have c1:=hB.cell 1 rfl;have c2:=hB.cell 2 rfl;have c3:=hB.cell 3 rfl;have c4:=hB.cell 4 rfl;have c5:=hB.cell 5 rfl;have c6:=hB.cell 6 rfl;have c7:=hB.cell 7 rfl;obtain⟨o,ho⟩:∃ o,findR p u (j:Int)=o:=⟨_,rfl⟩
  rw[ho]at C hmo;have EO:=Hh (E.out.trans ho);clear hB ho E;go_wp2_with fail
  refine C.out.mono ?_
  rintro e w3 ⟨v3,rfl,xa,xb,xc,xd,H3,rfl,hG3,hI3⟩
  have hG4:=hG2.trans hG3;have hTn3:=hG3.none hTn hT.lt;replace hT:=hT.below hG3.below;clear C hG3 c0 c1 c2 c3 c4 c5 c6 c7;obtain⟨q,hq⟩:∃ q,o.isSome=q:=⟨_,rfl⟩
  rw[hq];have HQ:=Hh hq;clear hq;obtain⟨x,hx⟩:∃ x,o.getD zeroItm=x:=⟨_,rfl⟩
  rw[hx]at hmo hI3⊢;have HX:=Hh hx;clear hx;have hU:=Blk.new w3 26 #[.int .i64 x.kind,.int .u64 x.n,.slice xa x.bytes.length xb,.slice xc x.items.length xd];replace hT:=hT.alloc (itemO x xa xb xc xd);have hG5:=hG4.alloc (itemO x xa xb xc xd);have CP:=Hh (ref_Copy x H3 _ _ _ _ _ _ _ _ _ hmo hI3.arg hG5.holds);have hTl:=hT.lt;clear hmo hI3 hG4;go_wp2_with fail
  refine CP.out.mono ?_
  rintro e w4 ⟨v4,rfl,ya,yb,yc,yd,H4,rfl,hG6,hI4⟩
  have hG7:=hG5.trans hG6;have hTn4:=hG6.none hTn3 hTl;replace hT:=hT.below hG6.below;clear CP hG6 hU hTl hG5;go_wp2_with (with_reducible refine stop_store ?_)
  refine stI hT fun w9 hT9 hg9=>?_
  have hG9:=hG7.grownOwn hTn4 (by omega) hg9;go_wp2_with fail
  refine ret_row_tmp rfl rfl hT9 rfl rfl size_item rfl ?_
  exact⟨_,by rw[EO.out,HQ.out];rfl,by rw[EO.out,HX.out];exact⟨ya,yb,yc,yd,H4,rfl,hG9,hI4⟩⟩
theorem header_Alg {H:Snap}(hTab:Tabs H) {p u:Itm}{a b:Ad}(hp:IsItem H a.ba a.bc a.ia a.ic p) (hu:IsItem H b.ba b.bc b.ia b.ic u) (w:World) (hH:Holds w H) :
  Calls Tryz.prog 21 #[.agg (hdrC p a u b)] w fun e w'=>e=.returned (.int .i64 (algP p u))∧Below w.heap.size w w':=by
 have hG:=(Grows.refl hH).alloc (.cells (hdrC p a u b) 28);have C:=Hh (header_Get hTab hp hu 1 (by omega) _ hG.holds);have A:Hid (∀ o,getH p u ((1:Nat):Int)=o→algP p u=match o with | some x=>algV x | none=>0):=by rintro o rfl;rfl
 obtain⟨o,ho⟩:∃ o,getH p u ((1:Nat):Int)=o:=⟨_,rfl⟩
 rw[ho]at C;have AO:=Hh (A.out o ho);clear hp hu hTab hH ho A;go_enter Tryz.func21,Tryz.ntmps21
 go_wp2_with fail
 refine C.out.mono ?_
 rintro e w2 ⟨v2,rfl,xa,xb,xc,xd,H2,rfl,hG2,hI2⟩
 have hG3:=hG.trans hG2;clear C hG hG2
 cases o with
 | none =>
  have E:Hid (algP p u=0):=AO.out
  simp only[Option.getD_none,Option.isSome_none]at hI2⊢
  have hG4:=hG3.alloc (itemO zeroItm xa xb xc xd);have hbb:=hG4.below;clear AO hG3 hI2;go_wp2_with fail
  go_ret
  exact⟨by rw[E.out];rfl,hbb⟩
 | some x =>
  have E:Hid (algP p u=algV x):=AO.out
  simp only[Option.getD_some,Option.isSome_some]at hI2⊢
  have hG4:=hG3.alloc (itemO x xa xb xc xd);have hbb:=hG4.below;have hU:=Blk.new w2 26 #[.int .i64 x.kind,.int .u64 x.n,.slice xa x.bytes.length xb,.slice xc x.items.length xd];obtain⟨q,hq⟩:∃ q,IntKind.i64.wrap ((x.n:Nat):Int)=q:=⟨_,rfl⟩
  obtain⟨r,hr⟩:∃ r,IntKind.i64.wrap (-1-q)=r:=⟨_,rfl⟩
  have EV:Hid (algV x=if x.kind=1 then r else q):=by rw[Hid,algV,hq,hr]
  have u0:=hU.cell 0 rfl;have u1:=hU.cell 1 rfl;clear AO hG3 hI2 hU
  by_cases h1:x.kind=1
  ·have k1:(x.kind==1)=true:=by simpa using h1
   rw[if_pos h1]at EV;have h1t:=eq_true h1;clear h1;go_wp2_with fail
   go_ret
   exact⟨by rw[E.out,EV.out];rfl,hbb⟩
  ·have k1:(x.kind==1)=false:=by simpa using h1
   rw[if_neg h1]at EV;have h1t:=eq_false h1;clear h1 hr;go_wp2_with fail
   go_ret
   exact⟨by rw[E.out,EV.out];rfl,hbb⟩
theorem ref12_Alg {H:Snap}(hTab:Tabs H) {p u:Itm}{a b:Ad}(hp:IsItem H a.ba a.bc a.ia a.ic p) (hu:IsItem H b.ba b.bc b.ia b.ic u) (w:World) (hH:Holds w H) :
  Calls Tryz.prog 25 #[.agg (hdrC p a u b)] w fun e w'=>e=.returned (.int .i64 (algP p u))∧Below w.heap.size w w':=by
 have hG:=(Grows.refl hH).alloc (.cells (hdrC p a u b) 28);have C:=Hh (ref12_Get hTab hp hu 1 (by omega) _ hG.holds);have A:Hid (∀ o,getH p u ((1:Nat):Int)=o→algP p u=match o with | some x=>algV x | none=>0):=by rintro o rfl;rfl
 obtain⟨o,ho⟩:∃ o,getH p u ((1:Nat):Int)=o:=⟨_,rfl⟩
 rw[ho]at C;have AO:=Hh (A.out o ho);clear hp hu hTab hH ho A;go_enter Tryz.func25,Tryz.ntmps25
 go_wp2_with fail
 refine C.out.mono ?_
 rintro e w2 ⟨v2,rfl,xa,xb,xc,xd,H2,rfl,hG2,hI2⟩
 have hG3:=hG.trans hG2;clear C hG hG2
 cases o with
 | none =>
  have E:Hid (algP p u=0):=AO.out
  simp only[Option.getD_none,Option.isSome_none]at hI2⊢
  have hG4:=hG3.alloc (itemO zeroItm xa xb xc xd);have hbb:=hG4.below;clear AO hG3 hI2;go_wp2_with fail
  go_ret
  exact⟨by rw[E.out];rfl,hbb⟩
 | some x =>
  have E:Hid (algP p u=algV x):=AO.out
  simp only[Option.getD_some,Option.isSome_some]at hI2⊢
  have hG4:=hG3.alloc (itemO x xa xb xc xd);have hbb:=hG4.below;have hU:=Blk.new w2 26 #[.int .i64 x.kind,.int .u64 x.n,.slice xa x.bytes.length xb,.slice xc x.items.length xd];obtain⟨q,hq⟩:∃ q,IntKind.i64.wrap ((x.n:Nat):Int)=q:=⟨_,rfl⟩
  obtain⟨r,hr⟩:∃ r,IntKind.i64.wrap (-1-q)=r:=⟨_,rfl⟩
  have EV:Hid (algV x=if x.kind=1 then r else q):=by rw[Hid,algV,hq,hr]
  have u0:=hU.cell 0 rfl;have u1:=hU.cell 1 rfl;clear AO hG3 hI2 hU
  by_cases h1:x.kind=1
  ·have k1:(x.kind==1)=true:=by simpa using h1
   rw[if_pos h1]at EV;have h1t:=eq_true h1;clear h1;go_wp2_with fail
   go_ret
   exact⟨by rw[E.out,EV.out];rfl,hbb⟩
  ·have k1:(x.kind==1)=false:=by simpa using h1
   rw[if_neg h1]at EV;have h1t:=eq_false h1;clear h1 hr;go_wp2_with fail
   go_ret
   exact⟨by rw[E.out,EV.out];rfl,hbb⟩
structure Ev where
 p:Itm
 u:Itm
 body:List UInt8
 tag:List UInt8
structure EvAd where
 a:Ad
 b:Ad
 ba:Option Addr
 bc:Nat
 ta:Option Addr
 tc:Nat
abbrev evC (p:Itm) (a:Ad) (u:Itm) (b:Ad) (ba:Option Addr) (bn bc:Nat) (ta:Option Addr) (tn tc:Nat):Array Value :=
 #[.int .i64 p.kind,.int .u64 p.n,.slice a.ba p.bytes.length a.bc,.slice a.ia p.items.length a.ic,.int .i64 u.kind,.int .u64 u.n,.slice b.ba u.bytes.length b.bc,.slice b.ia u.items.length b.ic,.slice ba bn bc,.slice ta tn tc]
abbrev evQ (v:Ev) (a:EvAd):Array Value:=evC v.p a.a v.u a.b a.ba v.body.length a.bc a.ta v.tag.length a.tc
structure EvA (H:Snap) (v:Ev) (a:EvAd):Prop where
 p:IsItem H a.a.ba a.a.bc a.a.ia a.a.ic v.p
 u:IsItem H a.b.ba a.b.bc a.b.ia a.b.ic v.u
 body:IsBytes H a.ba a.bc v.body
 tag:IsBytes H a.ta a.tc v.tag
theorem EvA.mono {H K:Snap}{v:Ev}{a:EvAd}(h:EvA H v a) (hl:H.le K):EvA K v a:=⟨h.p.mono hl,h.u.mono hl,h.body.mono hl,h.tag.mono hl⟩
abbrev zeroEvC:Array Value:=#[.int .i64 0,.int .u64 0,.slice none 0 0,.slice none 0 0,.int .i64 0,.int .u64 0,.slice none 0 0,.slice none 0 0,.slice none 0 0,.slice none 0 0]
def nilEv:Ev:=⟨zeroItm,zeroItm,[],[]⟩
def nilEvAd:EvAd:=⟨⟨none,0,none,0⟩,⟨none,0,none,0⟩,none,0,none,0⟩
theorem nilEv_at (H:Snap):EvA H nilEv nilEvAd:=⟨IsItem.plain H 0 0 (by omega) (by omega),IsItem.plain H 0 0 (by omega) (by omega),IsBytes.nil _,IsBytes.nil _⟩
def mac0L:List UInt8:=[77,65,67,48]
def macE (p u:Itm) (ext pay key:List UInt8):Int :=
 if validH p u=false then 1 else if tagN (algP p u)=0∨key.length=0 then 12 else if 4096<pay.length then 8 else inputE mac0L p u ext [pay]
def macT (p u:Itm) (ext pay key:List UInt8):List UInt8 :=
 (hmacP key (encB (inputI mac0L p ext [pay]))).take (tagN (algP p u))
def macV (p u:Itm) (ext pay key:List UInt8):Ev:=if macE p u ext pay key=0 then⟨p,u,pay,macT p u ext pay key⟩ else nilEv
def checkE (v:Ev) (ext key:List UInt8):Int :=
 if macE v.p v.u ext v.body key=0 then(if v.tag=macT v.p v.u ext v.body key then 0 else 11) else macE v.p v.u ext v.body key
def MacOut (w:World) (H:Snap) (p u:Itm) (ext pay key:List UInt8) (e:Ending) (w':World):Prop :=
 ∃ a H',e=.returned (.tuple #[.agg (evQ (macV p u ext pay key) a),.int .i64 (macE p u ext pay key)])∧Grows w H w' H'∧EvA H' (macV p u ext pay key) a
theorem MacOut.bad {w w':World}{H:Snap}{p u:Itm}{ext pay key:List UInt8}{c:Int}{e:Ending}(hc:macE p u ext pay key=c) (h0:c≠0) (hG:Grows w H w' H) (he:e=.returned (.tuple #[.agg zeroEvC,.int .i64 c])):MacOut w H p u ext pay key e w':=by
 have hv:macV p u ext pay key=nilEv:=by rw[macV,if_neg (by omega)]
 refine⟨nilEvAd,H, ?_,hG, ?_⟩
 ·rw[hv,hc,he];rfl
 ·rw[hv]
  exact nilEv_at H
theorem macE_input {p u:Itm}{ext pay key:List UInt8}(hv:validH p u=true) (ha:tagN (algP p u)≠0) (hk:key.length≠0) (hp:¬ 4096<pay.length):macE p u ext pay key=inputE mac0L p u ext [pay]:=by
 rw[macE,if_neg (by simp[hv]),if_neg (by omega),if_neg hp]
theorem MacOut.good {w w':World}{H H':Snap}{p u:Itm}{ext pay key:List UInt8}{e:Ending}{xa xb:Ad}{BA:Option Addr}{bn bc:Nat}{TA:Option Addr}{c n:Nat}{l:List UInt8}(hc:macE p u ext pay key=0) (hG:Grows w H w' H') (hp:IsItem H' xa.ba xa.bc xa.ia xa.ic p) (hu:IsItem H' xb.ba xb.bc xb.ia xb.ic u)
  (hbn:bn=pay.length) (hb:IsBytes H' BA bc pay) (hn:tagN (algP p u)=n) (hl:l=encB (inputI mac0L p ext [pay])) (hnl:n≤(hmacP key l).length) (ht:IsBytes H' TA c (hmacP key l)) (he:e=.returned (.tuple #[.agg (evC p xa u xb BA bn bc TA n n),.int .i64 0])):MacOut w H p u ext pay key e w':=by
 have hv:macV p u ext pay key=⟨p,u,pay,(hmacP key l).take n⟩:=by rw[macV,if_pos hc,macT,hn,hl]
 have hlen:((hmacP key l).take n).length=n:=by rw[List.length_take];omega
 refine⟨⟨xa,xb,BA,bc,TA,n⟩,H', ?_,hG, ?_⟩
 ·rw[hv,hc,he,hbn];show _=Ending.returned (.tuple #[.agg (evC p xa u xb BA pay.length bc TA ((hmacP key l).take n).length n),.int .i64 0])
  rw[hlen]
 ·rw[hv]
  exact⟨hp,hu,hb,⟨by show((hmacP key l).take n).length≤n;rw[hlen];exact Nat.le_refl _,by show n≤9223372036854775807;have:=ht.le;have:=ht.max;omega,(ht.take' n).row⟩⟩
theorem MacOut.good' {w w':World}{H H':Snap}{p u:Itm}{ext pay key:List UInt8}{e:Ending}{xa xb:Ad}{BA:Option Addr}{bn bc:Nat}{TA:Option Addr}{c n:Nat}{l:List UInt8}(hc:macE p u ext pay key=0) (hG:Grows w H w' H') (hp:IsItem H' xa.ba xa.bc xa.ia xa.ic p) (hu:IsItem H' xb.ba xb.bc xb.ia xb.ic u)
  (hbn:bn=pay.length) (hb:IsBytes H' BA bc pay) (hn:tagN (algP p u)=n) (hl:l=encB (inputI mac0L p ext [pay])) (hnl:n≤(hmacP key l).length) (ht:IsBytes H' TA c (hmacP key l)) (he:e=.returned (.tuple #[.agg (evC p xa u xb BA bn bc TA n c),.int .i64 0])):MacOut w H p u ext pay key e w':=by
 have hv:macV p u ext pay key=⟨p,u,pay,(hmacP key l).take n⟩:=by rw[macV,if_pos hc,macT,hn,hl]
 have hlen:((hmacP key l).take n).length=n:=by rw[List.length_take];omega
 refine⟨⟨xa,xb,BA,bc,TA,c⟩,H', ?_,hG, ?_⟩
 ·rw[hv,hc,he,hbn];show _=Ending.returned (.tuple #[.agg (evC p xa u xb BA pay.length bc TA ((hmacP key l).take n).length c),.int .i64 0])
  rw[hlen]
 ·rw[hv]
  exact⟨hp,hu,hb,ht.take' n⟩
theorem inputE_small {ctx:List UInt8}{p u:Itm}{ext:List UInt8}{pay:List (List UInt8)}(h:inputE ctx p u ext pay=0):(encB (inputI ctx p ext pay)).length≤4096:=by
 unfold inputE at h
 split at h
 ·cases h
 ·split at h
  ·cases h
  ·split at h
   ·cases h
   ·rename_i hv
    exact(validP_spec (by simpa using hv)).2.2
theorem macV_len {p u:Itm}{ext pay key:List UInt8}{V:Ev}(h:macV p u ext pay key=V) (hp:pay.length≤600):V.body.length≤600∧V.tag.length≤32:=by
 subst h
 unfold macV
 split
 ·refine⟨hp, ?_⟩
  show(macT p u ext pay key).length≤32
  unfold macT
  rw[List.length_take,hmacP_len]
  omega
 ·exact⟨by simp[nilEv],by simp[nilEv]⟩
theorem macV_modest (p u:Itm) (ext pay key:List UInt8):Modest (macV p u ext pay key).p∧Modest (macV p u ext pay key).u:=by
 unfold macV
 split
 ·rename_i h
  have hv:validH p u=true:=by
   cases hv:validH p u with
   | true=>rfl
   | false=>rw[macE,if_pos hv]at h;cases h
  have vv:=validH_valid hv
  exact⟨validP_modest vv.1,validP_modest vv.2.1⟩
 ·have hz:Modest zeroItm:=by rw[Modest,ModestL];simp
  exact⟨hz,hz⟩
end Go.Proofs.YtgcjjhibdbafmaaGreatDoor
namespace Go.Proofs.YtgcjjhibdbafmaaGreatDoor
open Go.RowKit Go.Shelf
def sortRen:Go.Shelf.Ren:=⟨fun | 6=>80 | 10=>100 | 11=>101 | 12=>102 | 13=>103 | 14=>104 | 24=>128 | 25=>129 | 26=>130 | 27=>131 | 28=>132 | 29=>133 | 30=>134 | 31=>135 | 32=>136 | 33=>137 | 34=>150 | 35=>151 | 36=>152 | 37=>153 | 38=>154 | 39=>163 | n=>n,
 fun | 0=>0 | 3=>3 | 4=>4 | 5=>5 | 9=>9 | 12=>12 | 17=>17 | 20=>20 | 26=>110 | 32=>136 | 33=>137 | 35=>139 | 37=>141 | 41=>97 | 44=>147 | 49=>114 | 51=>22 | 53=>168 | 54=>169 | 58=>173 | 60=>186 | 64=>189 | 66=>193 | 67=>194 | 75=>208 | 76=>209 | 77=>210 | 78=>211 | 79=>212 | 80=>213 | 82=>215 | n=>n,fun n=>n⟩
theorem sortLays:LaysGg.n6 Tryz.prog sortRen where
 mixed:=by kernel_rfl
 f6:=Tryz.func80.trans (congrArg some (by kernel_rfl))
 f10:=Tryz.func100.trans (congrArg some (by kernel_rfl))
 f11:=Tryz.func101.trans (congrArg some (by kernel_rfl))
 f12:=Tryz.func102.trans (congrArg some (by kernel_rfl))
 f13:=Tryz.func103.trans (congrArg some (by kernel_rfl))
 f14:=Tryz.func104.trans (congrArg some (by kernel_rfl))
 f24:=Tryz.func128.trans (congrArg some (by kernel_rfl))
 f25:=Tryz.func129.trans (congrArg some (by kernel_rfl))
 f26:=Tryz.func130.trans (congrArg some (by kernel_rfl))
 f27:=Tryz.func131.trans (congrArg some (by kernel_rfl))
 f28:=Tryz.func132.trans (congrArg some (by kernel_rfl))
 f29:=Tryz.func133.trans (congrArg some (by kernel_rfl))
 f30:=Tryz.func134.trans (congrArg some (by kernel_rfl))
 f31:=Tryz.func135.trans (congrArg some (by kernel_rfl))
 f32:=Tryz.func136.trans (congrArg some (by kernel_rfl))
 f33:=Tryz.func137.trans (congrArg some (by kernel_rfl))
 f34:=Tryz.func150.trans (congrArg some (by kernel_rfl))
 f35:=Tryz.func151.trans (congrArg some (by kernel_rfl))
 f36:=Tryz.func152.trans (congrArg some (by kernel_rfl))
 f37:=Tryz.func153.trans (congrArg some (by kernel_rfl))
 f38:=Tryz.func154.trans (congrArg some (by kernel_rfl))
 f39:=Tryz.func163.trans (congrArg some (by kernel_rfl))
 t0:=Tryz.underlying0
 a0:=Tryz.isAgg0
 z0:=Tryz.sizeOf0
 v0:=Tryz.zeroValue0
 i0:=by kernel_rfl
 t3:=Tryz.underlying3
 a3:=Tryz.isAgg3
 z3:=Tryz.sizeOf3
 v3:=Tryz.zeroValue3
 i3:=by kernel_rfl
 t4:=Tryz.underlying4
 a4:=Tryz.isAgg4
 z4:=Tryz.sizeOf4
 v4:=Tryz.zeroValue4
 i4:=by kernel_rfl
 t5:=Tryz.underlying5
 a5:=Tryz.isAgg5
 z5:=Tryz.sizeOf5
 v5:=Tryz.zeroValue5
 i5:=by kernel_rfl
 t9:=Tryz.underlying9
 a9:=Tryz.isAgg9
 z9:=Tryz.sizeOf9
 v9:=Tryz.zeroValue9
 i9:=by kernel_rfl
 t12:=Tryz.underlying12
 a12:=Tryz.isAgg12
 z12:=Tryz.sizeOf12
 v12:=Tryz.zeroValue12
 i12:=by kernel_rfl
 t17:=Tryz.underlying17
 a17:=Tryz.isAgg17
 z17:=Tryz.sizeOf17
 v17:=Tryz.zeroValue17
 i17:=by kernel_rfl
 t20:=Tryz.underlying20
 a20:=Tryz.isAgg20
 z20:=Tryz.sizeOf20
 v20:=Tryz.zeroValue20
 i20:=by kernel_rfl
 t26:=Tryz.underlying110
 a26:=Tryz.isAgg110
 z26:=Tryz.sizeOf110
 v26:=Tryz.zeroValue110
 i26:=by kernel_rfl
 t32:=Tryz.underlying136
 a32:=Tryz.isAgg136
 z32:=Tryz.sizeOf136
 v32:=Tryz.zeroValue136
 i32:=by kernel_rfl
 t33:=Tryz.underlying137
 a33:=Tryz.isAgg137
 z33:=Tryz.sizeOf137
 v33:=Tryz.zeroValue137
 i33:=by kernel_rfl
 t35:=Tryz.underlying139
 a35:=Tryz.isAgg139
 z35:=Tryz.sizeOf139
 v35:=Tryz.zeroValue139
 i35:=by kernel_rfl
 t37:=Tryz.underlying141
 a37:=Tryz.isAgg141
 z37:=Tryz.sizeOf141
 v37:=Tryz.zeroValue141
 i37:=by kernel_rfl
 t41:=Tryz.underlying97
 a41:=Tryz.isAgg97
 z41:=Tryz.sizeOf97
 v41:=Tryz.zeroValue97
 i41:=by kernel_rfl
 t44:=Tryz.underlying147
 a44:=Tryz.isAgg147
 z44:=Tryz.sizeOf147
 v44:=Tryz.zeroValue147
 i44:=by kernel_rfl
 t49:=Tryz.underlying114
 a49:=Tryz.isAgg114
 z49:=Tryz.sizeOf114
 v49:=Tryz.zeroValue114
 i49:=by kernel_rfl
 t51:=Tryz.underlying22
 a51:=Tryz.isAgg22
 z51:=Tryz.sizeOf22
 v51:=Tryz.zeroValue22
 i51:=by kernel_rfl
 t53:=Tryz.underlying168
 a53:=Tryz.isAgg168
 z53:=Tryz.sizeOf168
 v53:=Tryz.zeroValue168
 i53:=by kernel_rfl
 t54:=Tryz.underlying169
 a54:=Tryz.isAgg169
 z54:=Tryz.sizeOf169
 v54:=Tryz.zeroValue169
 i54:=by kernel_rfl
 t58:=Tryz.underlying173
 a58:=Tryz.isAgg173
 z58:=Tryz.sizeOf173
 v58:=Tryz.zeroValue173
 i58:=by kernel_rfl
 t60:=Tryz.underlying186
 a60:=Tryz.isAgg186
 z60:=Tryz.sizeOf186
 v60:=Tryz.zeroValue186
 i60:=by kernel_rfl
 t64:=Tryz.underlying189
 a64:=Tryz.isAgg189
 z64:=Tryz.sizeOf189
 v64:=Tryz.zeroValue189
 i64:=by kernel_rfl
 t66:=Tryz.underlying193
 a66:=Tryz.isAgg193
 z66:=Tryz.sizeOf193
 v66:=Tryz.zeroValue193
 i66:=by kernel_rfl
 t67:=Tryz.underlying194
 a67:=Tryz.isAgg194
 z67:=Tryz.sizeOf194
 v67:=Tryz.zeroValue194
 i67:=by kernel_rfl
 t75:=Tryz.underlying208
 a75:=Tryz.isAgg208
 z75:=Tryz.sizeOf208
 v75:=Tryz.zeroValue208
 i75:=by kernel_rfl
 t76:=Tryz.underlying209
 a76:=Tryz.isAgg209
 z76:=Tryz.sizeOf209
 v76:=Tryz.zeroValue209
 i76:=by kernel_rfl
 t77:=Tryz.underlying210
 a77:=Tryz.isAgg210
 z77:=Tryz.sizeOf210
 v77:=Tryz.zeroValue210
 i77:=by kernel_rfl
 t78:=Tryz.underlying211
 a78:=Tryz.isAgg211
 z78:=Tryz.sizeOf211
 v78:=Tryz.zeroValue211
 i78:=by kernel_rfl
 t79:=Tryz.underlying212
 a79:=Tryz.isAgg212
 z79:=Tryz.sizeOf212
 v79:=Tryz.zeroValue212
 i79:=by kernel_rfl
 t80:=Tryz.underlying213
 a80:=Tryz.isAgg213
 z80:=Tryz.sizeOf213
 v80:=Tryz.zeroValue213
 i80:=by kernel_rfl
 t82:=Tryz.underlying215
 a82:=Tryz.isAgg215
 z82:=Tryz.sizeOf215
 v82:=Tryz.zeroValue215
 i82:=by kernel_rfl
end Go.Proofs.YtgcjjhibdbafmaaGreatDoor
namespace Go.Proofs.YtgcjjhibdbafmaaGreatDoor
open Go.RowKit
structure PE (H:Snap) where
 A:Option Addr
 cc:Nat
 key:List UInt8
 rest:List Value
 len:rest.length=8
 one:∀ u∈rest,u.oneCell'=true
 is:IsBytes H A cc key
instance (H:Snap):Inhabited (PE H):=⟨⟨none,0,[],List.replicate 8 (.bool false),by simp,by simp[Value.oneCell'],IsBytes.nil H⟩⟩
def encPE {H:Snap}(x:PE H):List Value:=.slice x.A x.key.length x.cc::x.rest
def ltPE {H:Snap}(a b:PE H):Bool:=decide (Lib.compareBytes a.key b.key<0)
theorem less_pairs {H:Snap}(blk off c Bs size:Nat) (W:World) (hW:Holds W H) (G:Nat→PE H) (hs:W.cell? ⟨Bs,0,none⟩=some (.slice (some ⟨blk,off,none⟩) size c))
  (hc:∀ t,t<size→W.cell? ⟨blk,off+t*9,none⟩=some (.slice (G t).A (G t).key.length (G t).cc)) (i j:Nat) (hi:i<size) (hj:j<size) :
  Calls Tryz.prog 81 #[.int .i64 i,.int .i64 j,.pointer (some ⟨Bs,0,none⟩)] W fun e w'=>e=.returned (.bool (ltPE (G i) (G j)))∧∃ q,w'=W.drewN q:=by
 have ci:=hc i hi;have cj:=hc j hj;have si:=Src.of_row (G i).is.row hW;have sj:=Src.of_row (G j).is.row hW;have hiI:(i:Int)<size:=by omega
 have hjI:(j:Int)<size:=by omega
 have E:Hid (ltPE (G i) (G j)=decide (Lib.compareBytes (G i).key (G j).key<0)):=rfl;obtain⟨x,hx⟩:∃ x,G i=x:=⟨_,rfl⟩
 obtain⟨y,hy⟩:∃ y,G j=y:=⟨_,rfl⟩
 rw[hx]at ci si E⊢;rw[hy]at cj sj E⊢;rw[E.out];have CMP:True:=trivial;have SX:=si;have SY:=sj;clear hc hx hy si sj E hW CMP;have HB:=Hh (And.intro hi hj);go_enter Tryz.func81,Tryz.ntmps81
 go_upto_region 1 with fail
 refine wp_region_waysZ 12 (fun wx=>wx.cell? ⟨Bs,0,none⟩=some (.slice (some ⟨blk,off,none⟩) size c)∧wx.cell? ⟨blk,off+i*9,none⟩=some (.slice x.A x.key.length x.cc)∧wx.cell? ⟨blk,off+j*9,none⟩=some (.slice y.A y.key.length y.cc)) (by kernel_rfl) (⟨hs,ci,cj⟩) (fun hHeld=>?_)
 refine Zk 0 rfl hHeld ?_
 refine Zk 1 rfl hHeld ?_
 refine Zk 2 rfl hHeld ?_
 refine Zk 3 rfl hHeld ?_
 refine Zk 4 rfl hHeld ?_
 refine Zk 5 rfl hHeld ?_
 refine Zk 6 rfl hHeld ?_
 refine Zk 7 rfl hHeld ?_
 refine Zk 8 rfl hHeld ?_
 refine Zk 9 rfl hHeld ?_
 refine Zo 10 rfl fun K hK=>?_
 go_simp
 refine(show Calls Tryz.prog 82 #[.slice x.A x.key.length x.cc,.slice y.A y.key.length y.cc] W.drew fun e w'=>e=.returned (.int .i64 (Lib.compareBytes x.key y.key))∧W.drew=w' from bytes_Compare W.drew x.A y.A x.key y.key x.key.length y.key.length x.cc y.cc rfl rfl SX SY).mono ?_
 rintro e w3 ⟨rfl,rfl⟩
 refine Ko hK ?_ fun hHeld=>?_
 ·exact⟨hs,ci,cj⟩
 clear hK K
 refine Zk 11 rfl hHeld ?_
 refine Zo 12 rfl fun K hK=>?_
 go_simp
 refine Kz hK ?_
 clear hK K
 refine WaysZ.done (by kernel_rfl) ?_
 clear hHeld;go_wp2_with fail
 go_ret
 exact⟨rfl,1,rfl⟩
end Go.Proofs.YtgcjjhibdbafmaaGreatDoor
namespace Go.Proofs.YtgcjjhibdbafmaaGreatDoor
open Go.RowKit Go.Shelf Go.Lib
noncomputable def pairTI:TypeInfo:=(Tryz.prog.info? 105).get (by kernel_rfl)
noncomputable def pairEI:TypeInfo:=(Tryz.prog.info? 107).get (by kernel_rfl)
theorem pairSw (n:Nat) (h2:2≤n):Lib.swapperK n pairEI 25=9:=by
 have a:pairEI.hasPointers=true:=by kernel_rfl
 have b:(pairEI.bytes==8)=false:=by kernel_rfl
 have c:(n==0)=false:=by simp;omega
 have d:(n==1)=false:=by simp;omega
 simp[Lib.swapperK,a,b,c,d]
theorem encPE_len {H:Snap}(x:PE H):(encPE x).length=9:=by simp[encPE,x.len]
end Go.Proofs.YtgcjjhibdbafmaaGreatDoor
namespace Go.Proofs.YtgcjjhibdbafmaaGreatDoor
open Go.RowKit
abbrev Pr:=List UInt8×Itm×Itm
def lieP:Lie Pr where
 k:=9
 pos:=by omega
 E:=fun H x c=>∃ A cc ba bc ia ic ba' bc' ia' ic',c=.slice A x.1.length cc::(itemC x.2.1 ba bc ia ic++itemC x.2.2 ba' bc' ia' ic')∧IsBytes H A cc x.1∧IsItem H ba bc ia ic x.2.1∧IsItem H ba' bc' ia' ic' x.2.2
 len:=by rintro _ _ _ ⟨_,_,_,_,_,_,_,_,_,_,rfl,_⟩;rfl
 one:=by rintro _ _ _ ⟨_,_,_,_,_,_,_,_,_,_,rfl,_⟩;simp[itemC,Value.oneCell']
 mono:=by rintro H K x c hl ⟨A,cc,ba,bc,ia,ic,ba',bc',ia',ic',e,h1,h2,h3⟩;exact⟨A,cc,ba,bc,ia,ic,ba',bc',ia',ic',e,h1.mono hl,h2.mono hl,h3.mono hl⟩
def pk:List Itm→List Pr
 | a::b::l=>(encB a,a,b)::pk l
 | _=>[]
theorem pk_len:∀ l:List Itm,(pk l).length=l.length/2
 | []=>rfl
 | [_]=>by simp[pk]
 | a::b::l=>by simp only[pk,List.length_cons,pk_len l];omega
theorem pk_get:∀ (l:List Itm) (i:Nat) (h:2*i+1<l.length),(pk l)[i]? = some (encB (l[2*i]'(by omega)),l[2*i]'(by omega),l[2*i+1])
 | [],i,h=>by simp at h
 | [_],i,h=>by simp at h
 | a::b::l,0,h=>by simp[pk]
 | a::b::l,i+1,h=>by
  have h':2*i+1<l.length:=by simp only[List.length_cons]at h;omega
  have e1:∀ h2,(a::b::l)[2*(i+1)]'h2=l[2*i]:=fun h2=>by
   have:2*(i+1)=2*i+1+1:=by omega
   simp only[this,List.getElem_cons_succ]
  have e2:∀ h2,(a::b::l)[2*(i+1)+1]'h2=l[2*i+1]:=fun h2=>by
   have:2*(i+1)+1=(2*i+1)+1+1:=by omega
   simp only[this,List.getElem_cons_succ]
  rw[e1,e2,pk,List.getElem?_cons_succ]
  exact pk_get l i h'
theorem pk_take (l:List Itm) (i:Nat) (h:2*i+1<l.length):pk (l.take (2*i+2))=pk (l.take (2*i))++[(encB (l[2*i]'(by omega)),l[2*i]'(by omega),l[2*i+1])]:=by
 apply List.ext_getElem?
 intro j
 have h1:(pk (l.take (2*i))).length=i:=by rw[pk_len,List.length_take];omega
 have h2:(pk (l.take (2*i+2))).length=i+1:=by rw[pk_len,List.length_take];omega
 rcases Nat.lt_trichotomy j i with hj | hj | hj
 ·rw[List.getElem?_append_left (by omega),pk_get _ j (by rw[List.length_take];omega),pk_get _ j (by rw[List.length_take];omega)]
  simp only[List.getElem_take]
 ·subst hj;rw[List.getElem?_append_right (by omega),h1,Nat.sub_self,pk_get _ j (by rw[List.length_take];omega)]
  simp only[List.getElem_take]
  rfl
 ·rw[List.getElem?_eq_none (by omega),List.getElem?_eq_none (by simp;omega)]
structure XM {α:Type} (L:Lie α) (t bt:TypeId) (kt:TypeId) (W0:World) (H:Snap) (B:Nat) (kc:Array Value) (bv v:Value) (l:List α) (w:World) (Hr:Snap):Prop where
 grows:Grows W0 H w Hr
 hK:Hr W0.heap.size=none
 key:Blk w W0.heap.size kt kc
 own:OwnX L t w (W0.heap.size+1) v Hr l
 apart:∀ g,v.ownBlock=some g→Hr g=none
 lt:W0.heap.size<B
 hB:Hr B=none
 box:Blk w B bt #[bv]
 far:v.ownBlock≠some B
section
variable {α:Type} {L:Lie α} {t bt kt:TypeId} {W0 w w':World} {H Hr Hs:Snap} {B:Nat} {kc:Array Value} {bv v v':Value} {l news:List α}
theorem XM.start (hG:Grows W0 H w Hr) (hK:Hr W0.heap.size=none) (hk:Blk w W0.heap.size kt kc) (hO:OwnX L t w (W0.heap.size+1) v Hr l) (ha:∀ g,v.ownBlock=some g→Hr g=none) :
  XM L t bt kt W0 H w.heap.size kc bv v l (w.alloc (.cells #[bv] bt)) Hr :=
 ⟨hG.alloc _,hK,hk.alloc _,hO.alloc _,ha,hk.lt,hG.hidden (Nat.le_refl _),Blk.new _ _ _,fun e=>by have:=(hO.lt _ e).2;omega⟩
theorem XM.grow (h:XM L t bt kt W0 H B kc bv v l w Hr) (k:Grows w Hr w' Hs):XM L t bt kt W0 H B kc bv v l w' Hs :=
 ⟨h.grows.trans k,k.none h.hK h.key.lt,h.key.below k.below,(h.own.below k.below).mono k.le,fun g hg=>k.none (h.apart g hg) (h.own.lt g hg).2,h.lt,k.none h.hB h.box.lt,h.box.below k.below,h.far⟩
theorem XM.below (h:XM L t bt kt W0 H B kc bv v l w Hr) (k:Below w.heap.size w w'):XM L t bt kt W0 H B kc bv v l w' Hr:=h.grow (Grows.of_below h.grows.holds k)
theorem XM.alloc (h:XM L t bt kt W0 H B kc bv v l w Hr) (o:Obj):XM L t bt kt W0 H B kc bv v l (w.alloc o) Hr:=h.below (below_box w o)
theorem XM.drew (h:XM L t bt kt W0 H B kc bv v l w Hr):XM L t bt kt W0 H B kc bv v l w.drew Hr:=h.below (Below.refl _ _).drew
theorem XM.base (h:XM L t bt kt W0 H B kc bv v l w Hr):W0.heap.size+1≤w.heap.size:=by have:=h.key.lt;omega
theorem XM.litZ (h:XM L t bt kt W0 H B kc bv v l w Hr) (cs:Array Value) (e:TypeId):Src (w.alloc (.cells cs e)) (some ⟨w.heap.size,0,none⟩) cs.toList:=Src.lit w cs e
theorem XM.app (h:XM L t bt kt W0 H B kc bv v l w Hr) (hO:OwnX L t w' (W0.heap.size+1) v' Hr (l++news)) (hg:w.grownBy w' v.ownBlock) (ha:At0 w v.ownBlock v'.ownBlock):XM L t bt kt W0 H B kc bv v' (l++news) w' Hr :=
 ⟨h.grows.grownRow h.apart (fun g hg=>by have:=(h.own.lt g hg).1;omega) hg,h.hK,h.key.grown hg (fun e=>by have:=(h.own.lt _ e).1;omega),hO,fun g hv=>by
  rcases ha with e | ⟨g',e,hs⟩
  ·exact h.apart g (by rw[← e,hv])
  ·rw[hv]at e;injection e with e
   subst e
   exact h.grows.hidden hs,h.lt,h.hB,h.box.grown hg h.far,by
  rcases ha with e | ⟨g',e,hs⟩
  ·rw[e];exact h.far
  ·rw[e]
   intro e2
   injection e2 with e2
   have:=h.box.lt
   omega⟩
theorem XM.setBox (h:XM L t bt kt W0 H B kc bv v l w Hr) (hB:Blk w' B bt #[v']) (hg:w.grownBy w' (some B)):XM L t bt kt W0 H B kc v' v l w' Hr :=
 ⟨h.grows.grownOwn h.hB (by have:=h.lt;omega) hg,h.hK,h.key.grown hg (fun e=>by injection e with e;have:=h.lt;omega),h.own.kept hg (.inr h.far),h.apart,h.lt,h.hB,hB,h.far⟩
theorem XM.snap {A:Option Addr}{m c:Nat}(h:XM L t bt kt W0 H B kc bv (.slice A m c) l w Hr) :
  ∃ H',Grows W0 H w H'∧Hr.le H'∧m=l.length∧IsRow L H' A c l∧H' W0.heap.size=none∧H' B=none:=by
 obtain⟨H',hl,hh,hf,rfl,hr⟩:=h.own.snap h.grows.holds (fun g hg=>h.apart g (by cases A <;> simp_all [Value.ownBlock]))
 have hno:∀ b,Hr b=none→(∀ g,(Value.slice A l.length c).ownBlock=some g→g≠b)→H' b=none:=fun b hb hne=>by
  cases hx:H' b with
  | none=>rfl
  | some o =>
   rcases hf b o hx with h1 | h1
   ·rw[hb]at h1;cases h1
   ·exact absurd rfl (hne b (by cases A <;> simp_all [Value.ownBlock]))
 refine⟨H',⟨h.grows.below,h.grows.le.trans hl,hh,fun b o hb=>?_⟩,hl,rfl,hr,hno _ h.hK (fun g hg e=>by have:=(h.own.lt g hg).1;omega),hno _ h.hB (fun g hg e=>h.far (by rw[hg,e]))⟩
 rcases hf b o hb with h1 | h1
 ·exact h.grows.fresh b o h1
 ·exact .inr (by have:=(h.own.lt b (by cases A <;> simp_all [Value.ownBlock])).1;omega)
end
theorem OwnX.append_wp2 {α:Type}{L:Lie α}{t:TypeId}{w:World}{base:Nat}{v:Value}{H:Snap}{l:List α}{o:Oper}{a:Act}{K:Act→World→Prop}{Q:Exit→Act→World→Prop}(s x:Operand) (T:TypeId)
  (ho:o.op=.call { callee:=.builtin .append,args:=#[s,x],argTypes:=#[T,T] }) (hT:Tryz.prog.underlying T=some (.slice t)) {z:Value} {bytes:Nat} (hzs:z.cells.size=L.k) (hby:bytes≤256)
  (hinfo:(Tryz.prog.info? t).map (fun i=>(i.zero,i.size,i.bytes))=some (some z,L.k,bytes))
  (hs:a.eval s=v) (hown:OwnX L t w base v H l) (A:Option Addr) (m c:Nat) (cs:List Value) (news:List α) (hx:a.eval x=.slice A m c) (hm:m=news.length)
  (hn:RowC L H cs news) (hr:Src w A cs) (hlen:l.length+news.length≤1048576) (hbase:base≤w.heap.size)
  (h:∀ v' w',OwnX L t w' base v' H (l++news)→w.grownBy w' v.ownBlock→At0 w v.ownBlock v'.ownBlock→K (a.put o.dst v') w') :
  Oper.wp Tryz.prog o a w K Q:=by
 subst hm;obtain⟨xs,hxs,hown⟩:=hown;obtain⟨i0,hi0,hz0,hz1,hz2⟩:=info_parts hinfo
 refine wp_append_src s x _ ho base t i0 _ L.k bytes hT hi0 hz0 hz1 hz2 hzs L.pos v l.length xs hs hown A news.length c cs hx hn.len hr hn.oneCell
  (by simp only[maxLen];omega) (by have:=Nat.mul_le_mul hlen hby;omega) hbase fun v' w' h2 h3 h4=>h v' w' ?_ h3 ?_
 ·exact⟨xs++cs,hxs.app hn,by simpa using h2⟩
 ·rcases h4 with h4 | h4
  ·exact .inl h4
  ·exact .inr ⟨_,h4,Nat.le_refl _⟩
abbrev zeroC:Array Value:=#[.int .i64 0,.int .u64 0,.slice none 0 0,.slice none 0 0]
structure BM (W0:World) (H:Snap) (B M:Nat) (bc:Array Value) (iv v:Value) (l:List Itm) (w:World) (Hr:Snap):Prop where
 grows:Grows W0 H w Hr
 hK:Hr W0.heap.size=none
 hB:Hr B=none
 hM:Hr M=none
 ltB:W0.heap.size<B
 ltM:W0.heap.size<M
 ne:B≠M
 key:Blk w W0.heap.size 26 zeroC
 boxB:Blk w B 105 bc
 boxM:Blk w M 26 #[.int .i64 5,.int .u64 0,.slice none 0 0,iv]
 own:OwnI w (W0.heap.size+1) v Hr l
 apart:∀ g,v.ownBlock=some g→Hr g=none∧g≠B∧g≠M
section
variable {W0 w w':World} {H Hr Hs:Snap} {B M:Nat} {bc:Array Value} {iv v v':Value} {l news:List Itm}
theorem BM.grow (h:BM W0 H B M bc iv v l w Hr) (k:Grows w Hr w' Hs):BM W0 H B M bc iv v l w' Hs :=
 ⟨h.grows.trans k,k.none h.hK h.key.lt,k.none h.hB h.boxB.lt,k.none h.hM h.boxM.lt,h.ltB,h.ltM,h.ne,h.key.below k.below,h.boxB.below k.below,h.boxM.below k.below,(h.own.below k.below).mono k.le,
  fun g hg=>⟨k.none (h.apart g hg).1 (h.own.lt g hg).2,(h.apart g hg).2⟩⟩
theorem BM.below (h:BM W0 H B M bc iv v l w Hr) (k:Below w.heap.size w w'):BM W0 H B M bc iv v l w' Hr:=h.grow (Grows.of_below h.grows.holds k)
theorem BM.alloc (h:BM W0 H B M bc iv v l w Hr) (o:Obj):BM W0 H B M bc iv v l (w.alloc o) Hr:=h.below (below_box w o)
theorem BM.drew (h:BM W0 H B M bc iv v l w Hr):BM W0 H B M bc iv v l w.drew Hr:=h.below (Below.refl _ _).drew
theorem BM.litZ (h:BM W0 H B M bc iv v l w Hr) (cs:Array Value) (e:TypeId):Src (w.alloc (.cells cs e)) (some ⟨w.heap.size,0,none⟩) cs.toList:=Src.lit w cs e
theorem BM.base (h:BM W0 H B M bc iv v l w Hr):W0.heap.size+1≤w.heap.size:=by have:=h.key.lt;omega
theorem BM.app (h:BM W0 H B M bc iv v l w Hr) (hO:OwnI w' (W0.heap.size+1) v' Hr (l++news)) (hg:w.grownBy w' v.ownBlock) (ha:At0 w v.ownBlock v'.ownBlock):BM W0 H B M bc iv v' (l++news) w' Hr :=
 ⟨h.grows.grownRow (fun g hg=>(h.apart g hg).1) (fun g hg=>by have:=(h.own.lt g hg).1;omega) hg,h.hK,h.hB,h.hM,h.ltB,h.ltM,h.ne,h.key.grown hg (fun e=>by have:=(h.own.lt _ e).1;omega),
  h.boxB.grown hg (fun e=>(h.apart _ e).2.1 rfl),h.boxM.grown hg (fun e=>(h.apart _ e).2.2 rfl),hO,fun g hv=>by
  rcases ha with e | ⟨g',e,hs⟩
  ·exact h.apart g (by rw[← e,hv])
  ·rw[hv]at e;injection e with e
   subst e;have h1:=h.boxB.lt;have h2:=h.boxM.lt
   exact⟨h.grows.hidden hs,by omega,by omega⟩⟩
theorem BM.setM (h:BM W0 H B M bc iv v l w Hr) {iv':Value}(hB:Blk w' M 26 #[.int .i64 5,.int .u64 0,.slice none 0 0,iv']) (hg:w.grownBy w' (some M)):BM W0 H B M bc iv' v l w' Hr :=
 ⟨h.grows.grownOwn h.hM (by have:=h.ltM;omega) hg,h.hK,h.hB,h.hM,h.ltB,h.ltM,h.ne,h.key.grown hg (fun e=>by injection e with e;have:=h.ltM;omega),h.boxB.grown hg (fun e=>by injection e with e;exact h.ne e.symm),hB,
  h.own.kept hg (by
   cases hv:v.ownBlock with
   | none=>exact .inl rfl
   | some g=>exact .inr (fun e=>by injection e with e;exact(h.apart g hv).2.2 e)),h.apart⟩
theorem BM.item {A:Option Addr}{m c:Nat}(h:BM W0 H B M bc (.slice A m c) (.slice A m c) l w Hr) :
  ∃ H',Grows W0 H w H'∧m=l.length∧IsItem H' none 0 A c (.mk 5 0 [] l)∧H' W0.heap.size=none:=by
 obtain⟨H',hl,hh,hf,rfl,hle1,hle2,hel⟩:=h.own.snap h.grows.holds (fun g hg=>(h.apart g (by cases A <;> simp_all [Value.ownBlock])).1)
 refine⟨H',⟨h.grows.below,h.grows.le.trans hl,hh,fun b o hb=>?_⟩,rfl, ?_, ?_⟩
 ·rcases hf b o hb with h1 | h1
  ·exact h.grows.fresh b o h1
  ·exact .inr (by have:=(h.own.lt b (by cases A <;> simp_all [Value.ownBlock])).1;omega)
 ·rw[IsItem]
  exact⟨⟨by omega,by omega,by omega,hle1,hle2⟩,IsBytes.nil _,hel⟩
 ·cases hx:H' W0.heap.size with
  | none=>rfl
  | some o =>
   rcases hf _ o hx with h1 | h1
   ·rw[h.hK]at h1;cases h1
   ·have:=(h.own.lt W0.heap.size (by cases A <;> simp_all [Value.ownBlock])).1;omega
end
abbrev zeroPair:Value:=.agg #[.slice none 0 0,.int .i64 0,.int .u64 0,.slice none 0 0,.slice none 0 0,.int .i64 0,.int .u64 0,.slice none 0 0,.slice none 0 0]
theorem info_bpair:(Tryz.prog.info? 107).map (fun i=>(i.zero,i.size,i.bytes))=some (some zeroPair,9,152):=by kernel_rfl
theorem size_bpairs:(Tryz.prog.info? 105).map (·.size)=some 1:=by kernel_rfl
theorem m0b {w w':World}{p:Addr}{v:Value}(hb:Below w.heap.size w w') (h:w.cell? p=some v):w'.cell? p=some v:=cell_below h hb
def BuiltOut (w:World) (H:Snap) (ps:List Itm) (e:Ending) (w':World):Prop:=∃ v,e=.returned (.tuple #[v,.int .i64 0])∧Gives w H (.mk 5 0 [] ps) v w'
inductive Pairs {α β:Type} (R:α→β→Prop):List α→List β→Prop
 | nil:Pairs R [] []
 | cons {a b l m}:R a b→Pairs R l m→Pairs R (a::l) (b::m)
theorem Pairs.perm {α β:Type}{R:α→β→Prop}{l l':List α}(hp:l'.Perm l):∀ {m:List β},Pairs R l m→∃ m',Pairs R l' m'∧m'.Perm m:=by
 induction hp with
 | nil=>intro m h;cases h;exact⟨[],.nil,.refl _⟩
 | cons x _ ih =>
  intro m h
  cases h with
  | cons hx hr =>
   obtain⟨m',h1,h2⟩:=ih hr
   exact⟨_::m',.cons hx h1,h2.cons _⟩
 | swap x y l =>
  intro m h
  cases h with
  | cons hx hr =>
   cases hr with
   | cons hy hr2=>exact⟨_,.cons hy (.cons hx hr2),.swap _ _ _⟩
 | trans _ _ ih1 ih2 =>
  intro m h
  obtain⟨m2,h1,h2⟩:=ih2 h;obtain⟨m3,h3,h4⟩:=ih1 h1
  exact⟨m3,h3,h4.trans h2⟩
theorem cmp_swo {α:Type}(k:α→List UInt8):Go.Sort.SWO (fun a b=>decide (Lib.compareBytes (k a) (k b)<0)) where
 irrefl:=fun x=>by rw[cmp_refl];rfl
 trans:=fun x y z h1 h2=>by rw[decide_eq_true_eq]at *;exact cmp_trans _ _ _ h1 h2
 ntrans:=fun x y z h1 h2=>by
  rw[decide_eq_false_iff_not]at *
  intro h3
  by_cases e:Lib.compareBytes (k x) (k y)=0
  ·have:=(cmp_zero _ _).1 e;rw[this]at h3
   exact h2 h3
  ·have h4:=cmp_not _ _ e h1
   exact h2 (cmp_trans _ _ _ h4 h3)
def Asc {α:Type}(k:α→List UInt8) (l:List α):Prop:=l.Pairwise fun a b=>Lib.compareBytes (k a) (k b)<0
theorem asc_unique {α:Type}(k:α→List UInt8):∀ {l m:List α},Asc k l→Asc k m→l.Perm m→l=m
 | [],m,_,_,h=>by rw[List.nil_perm.1 h]
 | x::l,[],_,_,h=>by have:=h.length_eq;simp at this
 | x::l,y::m,hl,hm,h=>by
  have hl':=List.pairwise_cons.1 hl;have hm':=List.pairwise_cons.1 hm
  have hxy:x=y:=by
   have hx:x∈y::m:=h.subset (by simp);have hy:y∈x::l:=h.symm.subset (by simp)
   simp only[List.mem_cons]at hx hy
   rcases hx with hx | hx
   ·exact hx
   ·rcases hy with hy | hy
    ·exact hy.symm
    ·have h1:=hm'.1 x hx;have h2:=hl'.1 y hy;have h3:=cmp_trans _ _ _ h1 h2;rw[cmp_refl]at h3
     omega
  subst hxy;rw[asc_unique k hl'.2 hm'.2 (h.cons_inv)]
theorem asc_pk:∀ {l:List Itm},ascP l=true→Asc (·.1) (pk l):=by
 have main:∀ (n:Nat) (l:List Itm),l.length≤n→ascP l=true→Asc (·.1) (pk l)∧∀ a b r,l=a::b::r→∀ p∈pk r,Lib.compareBytes (encB a) p.1<0:=by
  intro n
  induction n with
  | zero =>
   intro l hl _
   obtain rfl:=List.eq_nil_of_length_eq_zero (by omega:l.length=0)
   exact⟨by simp only[pk];exact List.Pairwise.nil,fun _ _ _ h=>by cases h⟩
  | succ n ih =>
   intro l hl ha
   match l,hl,ha with
   | [],_,_=>exact⟨by simp only[pk];exact List.Pairwise.nil,fun _ _ _ h=>by cases h⟩
   | [_],_,_=>exact⟨by simp only[pk];exact List.Pairwise.nil,fun _ _ _ h=>by cases h⟩
   | [a,b],_,_=>exact⟨by simp only[pk];exact List.pairwise_singleton _ _,fun a' b' r h p hp=>by cases h;simp[pk]at hp⟩
   | a::b::c::r,hl,ha =>
    rw[ascP,Bool.and_eq_true,decide_eq_true_eq]at ha;have h1:=ih (c::r) (by simp only[List.length_cons]at hl⊢;omega) ha.2
    have hall:∀ p∈pk (c::r),Lib.compareBytes (encB a) p.1<0:=by
     intro p hp
     match r,h1,hp with
     | [],_,hp=>simp[pk]at hp
     | d::r,h1,hp =>
      rw[pk,List.mem_cons]at hp
      rcases hp with rfl | hp
      ·exact ha.1
      ·exact cmp_trans _ _ _ ha.1 (h1.2 c d r rfl p hp)
    refine⟨?_,fun a' b' r' h p hp=>by cases h;exact hall p hp⟩
    rw[pk]
    exact List.pairwise_cons.2 ⟨hall,h1.1⟩
 exact fun {l} h=>(main _ l (Nat.le_refl _) h).1
end Go.Proofs.YtgcjjhibdbafmaaGreatDoor
