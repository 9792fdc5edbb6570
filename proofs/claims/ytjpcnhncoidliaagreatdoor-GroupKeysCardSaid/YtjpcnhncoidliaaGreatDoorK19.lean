/- squeezed. Walks: what a signature of a group -/
import Derived.Test.YtjpcnhncoidliaaGreatDoorK18
set_option linter.unusedVariables false
set_option linter.unusedSimpArgs false
set_option maxRecDepth 100000
set_option maxHeartbeats 12800000
namespace Go.Proofs.YtjpcnhncoidliaaGreatDoor
open Go.RowKit
structure Bd where
 ctx:List UInt8
 kid:List UInt8
 piv:Int
structure BAd where
 xa:Option Addr
 xc:Nat
 ka:Option Addr
 kc:Nat
abbrev bdC (xa:Option Addr) (xl xc:Nat) (ka:Option Addr) (kl kc:Nat) (p:Int):Array Value:=#[.slice xa xl xc,.slice ka kl kc,.int .i64 p]
abbrev bdQ (b:Bd) (a:BAd):Array Value:=bdC a.xa b.ctx.length a.xc a.ka b.kid.length a.kc b.piv
structure BdA (H:Snap) (b:Bd) (a:BAd):Prop where
 ctx:IsBytes H a.xa a.xc b.ctx
 kid:IsBytes H a.ka a.kc b.kid
 piv : -9223372036854775808≤b.piv∧b.piv≤9223372036854775807
 small:b.ctx.length≤1099511∧b.kid.length≤1099511
theorem BdA.mono {H K:Snap}{b:Bd}{a:BAd}(h:BdA H b a) (hl:H.le K):BdA K b a:=⟨h.ctx.mono hl,h.kid.mono hl,h.piv,h.small⟩
def o8:List UInt8:=zj 4 2++[rJ 10,rJ (-8)].flatten
def sS (kid id cred:List UInt8) (piv:Int):List UInt8:=zj 4 7++[rJ 1,o8,vX kid,vX (xK piv),vX [],vX id,vX cred].flatten
def sL (x:Ep) (b:Bd) (s:List UInt8):List UInt8×Int :=
 match uZ x.members s with
 | none=>([],38)
 | some m=>if 0≤b.piv∧b.piv≤1099511627775 then(if 4096<(sS b.kid x.id m.cred b.piv).length then([],8) else(sS b.kid x.id m.cred b.piv,0)) else([],8)
def dJ (w:World) (H:Snap) (p:List UInt8×Int) (e:Ending) (w':World):Prop:=∃ A c H',e=.returned (.tuple #[.slice A p.1.length c,.int .i64 p.2])∧Grows w H w' H'∧IsBytes H' A c p.1
def X8 (v:Int):Bool:=decide (0≤v∧v≤1099511627775)
theorem cQ (v:Int) (w:World):Calls Tryz.prog 36 #[.int .i64 v] w fun e w'=>e=.returned (.bool (X8 v))∧w=w':=by
 by_cases h0:0≤v
 ·by_cases h1:v≤1099511627775
  ·have E:Hid (X8 v=true):=decide_eq_true ⟨h0,h1⟩;go_enter Tryz.func36,Tryz.ntmps36
   go_wp2_with fail
   go_ret
   exact⟨by rw[E.out];rfl,rfl⟩
  have E:Hid (X8 v=false):=decide_eq_false (fun h=>h1 h.2);go_enter Tryz.func36,Tryz.ntmps36
  go_wp2_with fail
  go_ret
  exact⟨by rw[E.out];rfl,rfl⟩
 have E:Hid (X8 v=false):=decide_eq_false (fun h=>h0 h.1);go_enter Tryz.func36,Tryz.ntmps36
 go_wp2_with fail
 go_ret
 exact⟨by rw[E.out];rfl,rfl⟩
theorem SrcR.lit7 (w:World) (t:TypeId) {A1 A2 A3 A4 A5 A6 A7:Option Addr}{n1 c1 n2 c2 n3 c3 n4 c4 n5 c5 n6 c6 n7 c7:Nat}{l1 l2 l3 l4 l5 l6 l7:List UInt8}(e1:n1=l1.length) (e2:n2=l2.length) (e3:n3=l3.length) (e4:n4=l4.length) (e5:n5=l5.length) (e6:n6=l6.length) (e7:n7=l7.length)
  (h1:Src w A1 (l1.map zg)) (h2:Src w A2 (l2.map zg)) (h3:Src w A3 (l3.map zg)) (h4:Src w A4 (l4.map zg)) (h5:Src w A5 (l5.map zg)) (h6:Src w A6 (l6.map zg)) (h7:Src w A7 (l7.map zg)) :
  SrcR (w.alloc (.cells #[.slice A1 n1 c1,.slice A2 n2 c2,.slice A3 n3 c3,.slice A4 n4 c4,.slice A5 n5 c5,.slice A6 n6 c6,.slice A7 n7 c7] t)) (some ⟨w.heap.size,0,none⟩) [l1,l2,l3,l4,l5,l6,l7]:=fun _=>by
 have hB:=Blk.new w t #[.slice A1 n1 c1,.slice A2 n2 c2,.slice A3 n3 c3,.slice A4 n4 c4,.slice A5 n5 c5,.slice A6 n6 c6,.slice A7 n7 c7]
 refine⟨w.heap.size,0,rfl,fun j hj=>?_⟩
 subst e1 e2 e3 e4 e5 e6 e7
 match j,hj with
 | 0,_=>exact⟨A1,c1,hB.cell 0 rfl,h1.alloc _⟩
 | 1,_=>exact⟨A2,c2,hB.cell 1 rfl,h2.alloc _⟩
 | 2,_=>exact⟨A3,c3,hB.cell 2 rfl,h3.alloc _⟩
 | 3,_=>exact⟨A4,c4,hB.cell 3 rfl,h4.alloc _⟩
 | 4,_=>exact⟨A5,c5,hB.cell 4 rfl,h5.alloc _⟩
 | 5,_=>exact⟨A6,c6,hB.cell 5 rfl,h6.alloc _⟩
 | 6,_=>exact⟨A7,c7,hB.cell 6 rfl,h7.alloc _⟩
theorem Zs {H:Snap}{x:Ep}{a:EAd}(hx:EpA H x a) {b:Bd}{ba:BAd}(t6:BdA H b ba) {A:Option Addr}{c:Nat}{s:List UInt8}{n:Nat}(hn:n=s.length) (hl:s.length≤1099511) (w:World) (hH:Holds w H) (hS:Src w A (s.map zg)) :
  Calls Tryz.prog 15 #[.agg (epQ x a),.agg (bdQ b ba),.slice A n c] w (dJ w H (sL x b s)):=by
 obtain⟨kl,sX⟩:∃ n,n=b.kid.length:=⟨_,rfl⟩
 obtain⟨xl,ek⟩:∃ n,b.ctx.length=n:=⟨_,rfl⟩
 have HN:=Hh (And.intro hn (And.intro hl (And.intro hx.small (And.intro sX t6.small))));have HX:=Hh hx;have HB:=Hh t6;have HS:=Hh hS;show Calls Tryz.prog 15 #[.agg (epQ x a),.agg (bdC ba.xa b.ctx.length ba.xc ba.ka b.kid.length ba.kc b.piv),.slice A n c] w (dJ w H (sL x b s))
 rw[← sX,ek];have hE:=(Blk.new w 33 (epQ x a)).alloc (.cells (bdC ba.xa xl ba.xc ba.ka kl ba.kc b.piv) 25);have hB:=Blk.new (w.alloc (.cells (epQ x a) 33)) 25 (bdC ba.xa xl ba.xc ba.ka kl ba.kc b.piv);rw[zW]at hB;have hG:=((Grows.refl hH).alloc (.cells (epQ x a) 33)).alloc (.cells (bdC ba.xa xl ba.xc ba.ka kl ba.kc b.piv) 25);have e0:=hE.cell 0 rfl;have e1:=hE.cell 1 rfl;have e2:=hE.cell 2 rfl;have e3:=hE.cell 3 rfl;have FD:=Hh (cT hx (c:=c) hn hl _ hG.holds (hS.below hG.below));clear hn hl hx t6 hH hS sX ek;go_enter Tryz.func15,Tryz.ntmps15
 go_wp2_with fail
 refine FD.out.mono ?_
 rintro e w2 ⟨ma,H2,rfl,yY,iK⟩
 have rY:Hid (sL x b s=match uZ x.members s with | none=>([],38) | some m=>if 0≤b.piv∧b.piv≤1099511627775 then(if 4096<(sS b.kid x.id m.cred b.piv).length then([],8) else(sS b.kid x.id m.cred b.piv,0)) else([],8)):=rfl
 cases ho:uZ x.members s with
 | none =>
  rw[ho]at rY;replace rY:Hid (sL x b s=([],38)):=rY;have xf:=(hG.trans yY).alloc (.cells (xQ mJ ma) 57);clear FD hG yY iK hE hB e0 e1 e2 e3 ho;go_wp2_with fail
  go_ret2
  exact⟨none,0,H2,by rw[rY.out];rfl,xf,by rw[rY.out];exact IsBytes.nil _⟩
 | some m =>
 rw[ho]at rY iK;replace rY:Hid (sL x b s=if 0≤b.piv∧b.piv≤1099511627775 then(if 4096<(sS b.kid x.id m.cred b.piv).length then([],8) else(sS b.kid x.id m.cred b.piv,0)) else([],8)):=rY;replace iK:MemA H2 m ma:=iK;have HM:=Hh iK;have SC:=(hE.below yY.below).alloc (.cells (xQ m ma) 57);have pi:=(hB.below yY.below).alloc (.cells (xQ m ma) 57);have Uw:=Blk.new w2 57 (xQ m ma);have xf:=(hG.trans yY).alloc (.cells (xQ m ma) 57);replace HX:=Hh (HX.out.mono xf.le);replace HB:=Hh (HB.out.mono xf.le);have b2:=pi.cell 2 rfl;obtain⟨M,Po⟩:∃ M,w2.heap.size=M:=⟨_,rfl⟩
 obtain⟨w3,cO⟩:∃ w3,w2.alloc (.cells (xQ m ma) 57)=w3:=⟨_,rfl⟩
 rw[Po]at Uw;rw[cO]at SC pi Uw xf;have S9:=Hh (And.intro Po cO);clear FD hG yY iK hE hB e0 e1 e2 e3 ho Po cO;go_wp2_with fail
 try rw[S9.out.1]
 try rw[S9.out.2]
 refine(cQ b.piv _).mono ?_
 rintro e w4 ⟨rfl,rfl⟩
 by_cases hp:0≤b.piv∧b.piv≤1099511627775
 ·rw[show X8 b.piv=true from decide_eq_true hp];rw[if_pos hp]at rY;clear hp b2;go_wp2_with fail
  refine(o5 10 (by omega) (by omega) _).mono ?_
  rintro e w5 ⟨r5,rfl,uV⟩
  obtain⟨A5,c5,rfl,_⟩:=uV.own.form;have Qk:=uV.own.src;have xz:=uV.2;obtain⟨n5,XO⟩:∃ n5,(rJ 10).length=n5:=⟨_,rfl⟩
  rw[XO];have I6:=Hh XO;clear XO uV;go_wp2_with fail
  refine(o5 (-8) (by omega) (by omega) _).mono ?_
  rintro e w6 ⟨r6,rfl,vu⟩
  obtain⟨A6,c6,rfl,_⟩:=vu.own.form;have Q8:=vu.own.src;have MG:=Qk.below vu.2;have y9:=xz.trans (vu.2.mono xz.size);obtain⟨n6,pD⟩:∃ n6,(rJ (-8)).length=n6:=⟨_,rfl⟩
  rw[pD];have Cf:=Hh pD;clear pD vu Qk xz;have hl:=SrcR.lit2 (c1:=c5) (c2:=c6) w6 23 I6.out.symm Cf.out.symm MG Q8;have xU:=y9.alloc y9.size (.cells #[.slice A5 n5 c5,.slice A6 n6 c6] 23);obtain⟨P,hP⟩:∃ P,w6.heap.size=P:=⟨_,rfl⟩
  rw[hP]at hl;obtain⟨w7,QC⟩:∃ w7,w6.alloc (.cells #[.slice A5 n5 c5,.slice A6 n6 c6] 23)=w7:=⟨_,rfl⟩
  rw[QC]at hl xU;have Eo:=Hh (And.intro hP QC);have AR:=Hh (mH (n:=2) (c:=2) rfl (by simp) (by have h4:=rk 10;have h5:=rk (-8);simp only[List.flatten_cons,List.flatten_nil,List.length_append,List.length_nil];omega) w7 hl);clear hP QC hl MG Q8 y9;go_wp2_with fail
  rw[Eo.out.1,Eo.out.2]
  refine AR.out.mono ?_
  rintro e w8 ⟨r8,rfl,pU⟩
  replace pU:Fresh w7 o8 r8 w8:=pU;obtain⟨A8,c8,rfl,_⟩:=pU.own.form;have bz:=Hh pU.own.src;have pj:=xU.trans (pU.2.mono xU.size);have FB:o8.length=3:=by decide
  rw[FB];have IX:=SC.below pj;have fJ:=pi.below pj;have FX:=Uw.below pj;have uv:=xf.below_ pj;clear pU xU AR pj SC pi Uw xf FB
  have GW:Hid ([rJ 1,o8,vX b.kid,vX (xK b.piv),vX [],vX x.id,vX m.cred].flatten.length≤1099511627000):=by
   have h1:=rk 1;have h2:=vU b.kid;have h3:=vU (xK b.piv);have h4:=qO b.piv;have h5:=vU x.id;have h6:=vU m.cred;have h7:=HN.out.2.2.1;have h8:=HN.out.2.2.2.2.2;have h9:=HM.out.small.2.1;have K7:o8.length=3:=by decide
   have D9:(vX []).length≤9:=vU [];rw[Hid]
   simp only[List.flatten_cons,List.flatten_nil,List.length_append,List.length_nil]
   omega
  have Cq:Hid (sS b.kid x.id m.cred b.piv=zj 4 [rJ 1,o8,vX b.kid,vX (xK b.piv),vX [],vX x.id,vX m.cred].length++[rJ 1,o8,vX b.kid,vX (xK b.piv),vX [],vX x.id,vX m.cred].flatten):=rfl;obtain⟨hE,Dq⟩:∃ h:Blk w8 w.heap.size 33 (epQ x a),h=IX:=⟨_,rfl⟩
  have uO:=IX.drew;have wI:=fJ.drew;have uQ:=FX.drew;have hG:=uv.drew;replace bz:=Hh (bz.out.below (Below.refl _ _).drew);clear hE Dq IX fJ FX uv;go_upto_region 7 with fail
  refine zn 19 (fun wx=>wx.cell? ⟨w.heap.size,1,none⟩=some (.slice a.ia x.id.length a.ic)∧wx.cell? ⟨w.heap.size+1,1,none⟩=some (.slice ba.ka kl ba.kc)∧wx.cell? ⟨w.heap.size+1,2,none⟩=some (.int .i64 b.piv)∧wx.cell? ⟨M,3,none⟩=some (.slice ma.ca m.cred.length ma.cc)) (by kernel_rfl) (⟨uO.cell 1 rfl,wI.cell 1 rfl,wI.cell 2 rfl,uQ.cell 3 rfl⟩) (fun zy=>?_)
  refine TkS 1 rfl zy ?_
  refine TkS 2 rfl zy ?_
  refine TkS 3 rfl zy ?_
  refine TkS 5 rfl zy ?_
  refine TkS 6 rfl zy ?_
  refine TkS 10 rfl zy ?_
  refine TkS 11 rfl zy ?_
  refine TkS 13 rfl zy ?_
  refine TkS 14 rfl zy ?_
  refine To 0 rfl fun K hK=>?_
  go_simp
  refine(o5 1 (by omega) (by omega) _).mono ?_
  rintro e wk0 ⟨rk0,rfl,Sp⟩
  obtain⟨RA0,rc0,rfl,ZW⟩:=Sp.own.form;clear ZW;obtain⟨rn0,PO⟩:∃ q,(rJ 1).length=q:=⟨_,rfl⟩
  have GO:=Hh PO;rw[PO];replace uO:=uO.below Sp.2;replace wI:=wI.below Sp.2;replace uQ:=uQ.below Sp.2;replace hG:=hG.below_ Sp.2;replace bz:=Hh (bz.out.below Sp.2);have XC:=Hh Sp.own.src;clear Sp PO
  refine Ko hK ?_ fun zy=>?_
  ·exact⟨uO.cell 1 rfl,wI.cell 1 rfl,wI.cell 2 rfl,uQ.cell 3 rfl⟩
  clear hK K
  refine To 4 rfl fun K hK=>?_
  go_simp
  refine(qV (c:=ba.kc) HN.out.2.2.2.1 (by have:=HN.out.2.2.2.2.2;omega) _ (Src.of_row HB.out.kid.row hG.holds)).mono ?_
  rintro e wk4 ⟨rk4,rfl,oU⟩
  obtain⟨RA4,rc4,rfl,Ds⟩:=oU.own.form;clear Ds;obtain⟨rn4,PP⟩:∃ q,(vX b.kid).length=q:=⟨_,rfl⟩
  have GP:=Hh PP;rw[PP];replace uO:=uO.below oU.2;replace wI:=wI.below oU.2;replace uQ:=uQ.below oU.2;replace hG:=hG.below_ oU.2;replace bz:=Hh (bz.out.below oU.2);replace XC:=Hh (XC.out.below oU.2);have Us:=Hh oU.own.src;clear oU PP
  refine Ko hK ?_ fun zy=>?_
  ·exact⟨uO.cell 1 rfl,wI.cell 1 rfl,wI.cell 2 rfl,uQ.cell 3 rfl⟩
  clear hK K
  refine To 7 rfl fun K hK=>?_
  go_simp
  refine(en b.piv _).mono ?_
  rintro e wk7 ⟨rk7,rfl,rO⟩
  obtain⟨RA7,rc7,rfl,Dt⟩:=rO.own.form;clear Dt;obtain⟨rn7,PQ⟩:∃ q,(xK b.piv).length=q:=⟨_,rfl⟩
  have GQ:=Hh PQ;rw[PQ];replace uO:=uO.below rO.2;replace wI:=wI.below rO.2;replace uQ:=uQ.below rO.2;replace hG:=hG.below_ rO.2;replace bz:=Hh (bz.out.below rO.2);replace XC:=Hh (XC.out.below rO.2);replace Us:=Hh (Us.out.below rO.2);have S6:=Hh rO.own.src;clear rO PQ
  refine Ko hK ?_ fun zy=>?_
  ·exact⟨uO.cell 1 rfl,wI.cell 1 rfl,wI.cell 2 rfl,uQ.cell 3 rfl⟩
  clear hK K
  refine To 8 rfl fun K hK=>?_
  go_simp
  refine(qV (c:=rc7) GQ.out.symm (by have:=qO b.piv;omega) _ S6.out).mono ?_
  rintro e wk8 ⟨rk8,rfl,pU⟩
  obtain⟨RA8,rc8,rfl,NH⟩:=pU.own.form;clear NH;obtain⟨rn8,PS⟩:∃ q,(vX (xK b.piv)).length=q:=⟨_,rfl⟩
  have GR:=Hh PS;rw[PS];replace uO:=uO.below pU.2;replace wI:=wI.below pU.2;replace uQ:=uQ.below pU.2;replace hG:=hG.below_ pU.2;replace bz:=Hh (bz.out.below pU.2);replace XC:=Hh (XC.out.below pU.2);replace Us:=Hh (Us.out.below pU.2);replace S6:=Hh (S6.out.below pU.2);have Z4:=Hh pU.own.src;clear pU PS
  refine Ko hK ?_ fun zy=>?_
  ·exact⟨uO.cell 1 rfl,wI.cell 1 rfl,wI.cell 2 rfl,uQ.cell 3 rfl⟩
  clear hK K
  refine To 9 rfl fun K hK=>?_
  go_simp
  refine(qV (A:=none) (n:=0) (c:=0) (l:=[]) rfl (by simp) _ (Src.nil _ _)).mono ?_
  rintro e wk9 ⟨rk9,rfl,eh⟩
  obtain⟨RA9,rc9,rfl,Du⟩:=eh.own.form;clear Du;obtain⟨rn9,PT⟩:∃ q,(vX []).length=q:=⟨_,rfl⟩
  have GT:=Hh PT;rw[PT];replace uO:=uO.below eh.2;replace wI:=wI.below eh.2;replace uQ:=uQ.below eh.2;replace hG:=hG.below_ eh.2;replace bz:=Hh (bz.out.below eh.2);replace XC:=Hh (XC.out.below eh.2);replace Us:=Hh (Us.out.below eh.2);replace S6:=Hh (S6.out.below eh.2);replace Z4:=Hh (Z4.out.below eh.2);have Mh:=Hh eh.own.src;clear eh PT
  refine Ko hK ?_ fun zy=>?_
  ·exact⟨uO.cell 1 rfl,wI.cell 1 rfl,wI.cell 2 rfl,uQ.cell 3 rfl⟩
  clear hK K
  refine To 12 rfl fun K hK=>?_
  go_simp
  refine(qV (c:=a.ic) rfl (by have:=HX.out.small;omega) _ (Src.of_row HX.out.id.row hG.holds)).mono ?_
  rintro e wk12 ⟨rk12,rfl,k7⟩
  obtain⟨RA12,rc12,rfl,Gq⟩:=k7.own.form;clear Gq;obtain⟨rn12,UM⟩:∃ q,(vX x.id).length=q:=⟨_,rfl⟩
  have Kv:=Hh UM;rw[UM];replace uO:=uO.below k7.2;replace wI:=wI.below k7.2;replace uQ:=uQ.below k7.2;replace hG:=hG.below_ k7.2;replace bz:=Hh (bz.out.below k7.2);replace XC:=Hh (XC.out.below k7.2);replace Us:=Hh (Us.out.below k7.2);replace S6:=Hh (S6.out.below k7.2);replace Z4:=Hh (Z4.out.below k7.2);replace Mh:=Hh (Mh.out.below k7.2);have Og:=Hh k7.own.src;clear k7 UM
  refine Ko hK ?_ fun zy=>?_
  ·exact⟨uO.cell 1 rfl,wI.cell 1 rfl,wI.cell 2 rfl,uQ.cell 3 rfl⟩
  clear hK K
  refine To 15 rfl fun K hK=>?_
  go_simp
  refine(qV (c:=ma.cc) rfl (by have:=HM.out.small;omega) _ (Src.of_row (HM.out.cred).row hG.holds)).mono ?_
  rintro e wk15 ⟨rk15,rfl,lK⟩
  obtain⟨RA15,rc15,rfl,Gr⟩:=lK.own.form;clear Gr;obtain⟨rn15,UN⟩:∃ q,(vX m.cred).length=q:=⟨_,rfl⟩
  have Kw:=Hh UN;rw[UN];replace uO:=uO.below lK.2;replace wI:=wI.below lK.2;replace uQ:=uQ.below lK.2;replace hG:=hG.below_ lK.2;replace bz:=Hh (bz.out.below lK.2);replace XC:=Hh (XC.out.below lK.2);replace Us:=Hh (Us.out.below lK.2);replace S6:=Hh (S6.out.below lK.2);replace Z4:=Hh (Z4.out.below lK.2);replace Mh:=Hh (Mh.out.below lK.2);replace Og:=Hh (Og.out.below lK.2);have GV:=Hh lK.own.src;clear lK UN
  refine Ko hK ?_ fun zy=>?_
  ·exact⟨uO.cell 1 rfl,wI.cell 1 rfl,wI.cell 2 rfl,uQ.cell 3 rfl⟩
  clear hK K
  refine To 16 rfl fun K hK=>?_
  go_simp
  have hl:=SrcR.lit7 (c1:=rc0) (c2:=c8) (c3:=rc4) (c4:=rc8) (c5:=rc9) (c6:=rc12) (c7:=rc15) wk15 23 GO.out.symm (show 3=o8.length by decide) GP.out.symm GR.out.symm GT.out.symm Kv.out.symm Kw.out.symm XC.out bz.out Us.out Z4.out Mh.out Og.out GV.out;replace uO:=uO.alloc (.cells #[.slice RA0 rn0 rc0,.slice A8 3 c8,.slice RA4 rn4 rc4,.slice RA8 rn8 rc8,.slice RA9 rn9 rc9,.slice RA12 rn12 rc12,.slice RA15 rn15 rc15] 23);replace wI:=wI.alloc (.cells #[.slice RA0 rn0 rc0,.slice A8 3 c8,.slice RA4 rn4 rc4,.slice RA8 rn8 rc8,.slice RA9 rn9 rc9,.slice RA12 rn12 rc12,.slice RA15 rn15 rc15] 23);replace uQ:=uQ.alloc (.cells #[.slice RA0 rn0 rc0,.slice A8 3 c8,.slice RA4 rn4 rc4,.slice RA8 rn8 rc8,.slice RA9 rn9 rc9,.slice RA12 rn12 rc12,.slice RA15 rn15 rc15] 23);replace hG:=hG.alloc (.cells #[.slice RA0 rn0 rc0,.slice A8 3 c8,.slice RA4 rn4 rc4,.slice RA8 rn8 rc8,.slice RA9 rn9 rc9,.slice RA12 rn12 rc12,.slice RA15 rn15 rc15] 23)
  refine Ko hK ?_ fun zy=>?_
  ·exact⟨uO.cell 1 rfl,wI.cell 1 rfl,wI.cell 2 rfl,uQ.cell 3 rfl⟩
  clear hK K
  refine To 17 rfl fun K hK=>?_
  go_simp
  refine(mH (n:=7) (c:=7) rfl (by simp) GW.out _ hl).mono ?_
  rintro e w17 ⟨r17,rfl,ZI⟩
  rw[← Cq.out]at ZI;replace uO:=uO.below ZI.2;replace wI:=wI.below ZI.2;replace uQ:=uQ.below ZI.2;obtain⟨FA,fc,rfl,Gs⟩:=ZI.own.form;clear Gs
  refine Ko hK ?_ fun zy=>?_
  ·exact⟨uO.cell 1 rfl,wI.cell 1 rfl,wI.cell 2 rfl,uQ.cell 3 rfl⟩
  clear hK K
  refine TkS 18 rfl zy ?_
  refine Wd ?_
  clear zy;obtain⟨HF,Mu,N9,Ss⟩:=Fresh.snapB hG.holds ZI;clear Ss;have Mv:=hG.trans Mu;obtain⟨fl,vj⟩:∃ q,(sS b.kid x.id m.cred b.piv).length=q:=⟨_,rfl⟩
  rw[vj]at rY⊢;have oO:=Hh vj;have Ho:=Hh N9;clear vj N9 ZI hG Mu uO wI uQ
  by_cases h4:4096<fl
  ·rw[if_pos h4]at rY;have Mp:(4096:Int)<(fl:Int):=by omega
   go_wp2_with fail
   go_ret2
   exact⟨none,0,HF,by rw[rY.out];rfl,Mv,by rw[rY.out];exact IsBytes.nil _⟩
  rw[if_neg h4]at rY;have Mp:¬ (4096:Int)<(fl:Int):=by omega
  go_wp2_with fail
  go_ret2
  exact⟨FA,fc,HF,by rw[rY.out,← oO.out];rfl,Mv,by rw[rY.out];exact Ho.out⟩
 rw[show X8 b.piv=false from decide_eq_false hp];rw[if_neg hp]at rY;clear hp b2 SC pi Uw;go_wp2_with fail
 go_ret2
 exact⟨none,0,H2,by rw[rY.out];rfl,xf,by rw[rY.out];exact IsBytes.nil _⟩
theorem Yc {A:Option Addr}{n c:Nat}{ls:List (List UInt8)}(hn:n=ls.length) (hl:ls.length≤1099511627000) (ht:ls.flatten.length≤1099511627000) (w:World) (hs:SrcR w A ls) :
  Calls Tryz.prog 51 #[.slice A n c] w fun e w'=>∃ r,e=.returned r∧Fresh w (ls.flatten) r w':=by
 have HN:=Hh (And.intro hn (And.intro hl ht));clear hn hl ht;go_enter Tryz.func51,Tryz.ntmps51
 have yp:=OwnB.nil w w.heap.size;have zP:=Below.refl w.heap.size w;go_wp2_with fail
 go_loopw [3,5,8] (fun v1 v5 v2 wr=>∃ (k:Nat) (VA:Option Addr) (vc vn:Nat) (l:List UInt8),k≤ls.length∧v2=.int .i64 (k:Int)∧v1=.slice VA vn vc∧OwnB wr w.heap.size (.slice VA vn vc) l∧vn=l.length∧(ls.flatten=l++(ls.drop k).flatten)∧Below w.heap.size w wr) (fun _ _ v2 _=>ls.length-(intOf v2).toNat)
 case atStart=>exact⟨0,_,_,_,_,Nat.zero_le _,rfl,rfl,yp,rfl,by simp,zP⟩
 case round =>
 clear yp zP;obtain⟨k,VA,vc,vn,l,sX,rfl,rfl,vf,mg,vI,yE⟩:=hrel;have HV:=Hh mg;have HE:=Hh vI;clear mg vI
 by_cases yy:k<ls.length
 ·obtain⟨ib,io,rfl,hr⟩:=hs (by omega);have Ug:(k:Int)<(n:Int):=by have:=HN.out.1;omega
  obtain⟨Aj,cj,c0,Ql⟩:=hr k yy;have q0:=(yE.cell (World.block_lt_of_cell? w _ c0)).trans c0;have Qm:=Ql.below yE;have pX:(k:Int)+1≤9223372036854775807:=by have:=HN.out.2.1;omega
  have HT:Hid (l.length+ls[k].length≤1099511627776):=by
   have h1:=congrArg List.length HE.out;rw[tm ls k yy]at h1
   simp only[List.length_append]at h1
   have:=HN.out.2.2;skip
   rw[Hid];omega
  have HF:Hid (ls.flatten=(l++ls[k])++(ls.drop (k+1)).flatten):=by rw[Hid,HE.out,tm ls k yy,List.append_assoc]
  clear hr c0 Ql;go_wp2_with (at_builtin;refine zf ?_)
  unfold zU
  obtain rfl:=HV.out
  refine zv rfl (.tmp 12) (.tmp 13) rfl w.heap.size _ _ rfl vf Aj _ cj ls[k] rfl rfl Qm HT.out yE.size fun v' w7 wY hg7 hat7=>?_
  obtain⟨VA',vc',rfl,_⟩:=wY.form;have i7:OwnB w7 w.heap.size (.slice VA' (l.length+ls[k].length) vc') (l++ls[k]):=by rw[← List.length_append];exact wY
  have xU:=yE.grown hg7 yE.size (fun q hq=>(vf.lt q hq).1);clear vf hg7 hat7 yE q0 Qm wY;go_wp2_with fail
  go_roundw
  case rel=>exact⟨k+1,VA',vc',_,_,by omega,by go_num,rfl,i7,by rw[List.length_append],HF.out,xU⟩
  case measure=>simp[intOf];omega
 have cG:k=ls.length:=by omega
 subst cG;have Ug:¬ ((ls.length:Int)<(n:Int)):=by have:=HN.out.1;omega
 have HZ:Hid (ls.flatten=l):=by rw[Hid,HE.out,List.drop_length];simp
 go_wp2_with fail
 go_ret
 obtain rfl:=HV.out
 exact⟨_,rfl,by rw[HZ.out];exact⟨vf,yE⟩⟩
def Apart (v u:Value):Prop:=∀ q,v.ownBlock=some q→u.ownBlock=some q→False
theorem Apart.ne {v u:Value}(h:Apart v u):u.ownBlock=none∨u.ownBlock≠v.ownBlock:=by
 cases hu:u.ownBlock with
 | none=>exact .inl rfl
 | some q=>exact .inr (fun e=>h q e.symm hu)
theorem Apart.step {v u v':Value}{w:World}{base:Nat}{l:List UInt8}(h:Apart v u) (hO:OwnB w base u l) (rL:At0 w v.ownBlock v'.ownBlock):Apart v' u:=by
 intro q hq hu
 rcases rL with e | ⟨g,e,hg⟩
 ·exact h q (e ▸ hq) hu
 rw[hq]at e;injection e with e
 subst e;have:=(hO.lt q hu).2
 omega
theorem Apart.symm {v u:Value}(h:Apart v u):Apart u v:=fun q h1 h2=>h q h2 h1
theorem gO {l:List UInt8}{i:Nat}(h:i<l.length) (m:Int):(l.take i).map (sV m)++[sV m l[i]]=(l.take (i+1)).map (sV m):=by
 rw[List.take_succ_eq_append_getElem h,List.map_append];rfl
theorem gH {A:Option Addr}{c:Nat}{key:List UInt8}{n:Nat}(hn:n=key.length) (u5:key.length≤1099511627) {B:Option Addr}{d:Nat}{b:List UInt8}{k:Nat}(hk:k=b.length) (hmb:b.length≤1099511000) (w:World) (hS:Src w A (key.map zg)) (hT:Src w B (b.map zg)) :
  Calls Tryz.prog 50 #[.slice A n c,.slice B k d] w fun e w'=>∃ r,e=.returned r∧Fresh w (rQ key b) r w':=by
 have HN:=Hh (And.intro hn (And.intro u5 (And.intro hk hmb)));have HS:=Hh hS;have HT:=Hh hT;clear hn u5 hk hmb hS hT;go_enter Tryz.func50,Tryz.ntmps50
 go_wp2_with (at_builtin;refine zf ?_)
 refine zv rfl (.const (.slice none 0 0)) (.tmp 10) rfl w.heap.size (.slice none 0 0) [] rfl (OwnB.nil _ _) A n c key rfl HN.out.1 HS.out (by have:=HN.out.2.1;simp;omega) (Nat.le_refl _) fun v1 w1 yp hg1 hat1=>?_
 rw[List.nil_append]at yp;have zP:=yT (by simpa [Value.ownBlock] using hg1);obtain⟨A1,c1,rfl,_⟩:=yp.form;rw[← HN.out.1]at yp⊢;have SM:=Hh (mD (c:=c1) HN.out.1 HN.out.2.1 w1 yp.src);clear hg1 hat1;go_upto_if 14 with fail
 go_cut [5] (fun s5 wx=>∃ (A2:Option Addr) (n2 c2:Nat),s5=.slice A2 n2 c2∧Hid (n2=(sj key).length)∧OwnB wx w.heap.size (.slice A2 n2 c2) (sj key)∧Below w.heap.size w wx)
 case first =>
  by_cases QU:n≤64
  ·have e:sj key=key:=by rw[sj,if_neg (by have:=HN.out.1;omega)]
   have Ok:¬ ((64:Int)<(n:Int)):=by omega
   have mX:=Hh e;clear e;go_wp2_with fail
   go_meet
   exact⟨A1,n,c1,rfl,by rw[Hid,mX.out];exact HN.out.1,by rw[mX.out];exact yp,zP⟩
  have e:sj key=pf key:=by rw[sj,if_pos (by have:=HN.out.1;omega)]
  have Ok:(64:Int)<(n:Int):=by omega
  have mX:=Hh e;clear e;go_wp2_with fail
  refine SM.out.mono ?_
  rintro e w2 ⟨r2,rfl,oT⟩
  obtain⟨A2,c2,rfl,_⟩:=oT.own.form;have ho:=oT.own.more (base':=w.heap.size) zP.size;have yz:=zP.trans (oT.2.mono zP.size);obtain⟨n1,oY⟩:∃ n1,(pf key).length=n1:=⟨_,rfl⟩
  rw[oY]at ho⊢;have VR:=Hh oY;clear oY oT;go_wp2_with fail
  go_meet
  exact⟨A2,n1,c2,rfl,by rw[Hid,mX.out];exact VR.out.symm,by rw[mX.out];exact ho,yz⟩
 case rest =>
 clear SM yp zP;obtain⟨A2,n2,c2,rfl,oJ,tl,yz⟩:=hcut;have ik:=Hh (jm key);have Oc:Hid (tk 54 key=(rp (sj key)).map (sV 54)):=rfl;have Od:Hid (tk 92 key=(rp (sj key)).map (sV 92)):=rfl;obtain⟨K,hK⟩:∃ K,sj key=K:=⟨_,rfl⟩
 rw[hK]at oJ ik tl Oc Od;clear hK;go_wp2_with fail
 go_loopw [5] (fun v5 wr=>∃ (z nz cz:Nat) (AZ:Option Addr),v5=.slice AZ nz cz∧Hid (nz=K.length+z∧z≤64-K.length)∧OwnB wr w.heap.size (.slice AZ nz cz) (K++List.replicate z 0)∧Below w.heap.size w wr) (fun v5 _=>64-rt v5)
 case atStart=>exact⟨0,n2,c2,A2,rfl,⟨oJ.out,Nat.zero_le _⟩,by simpa using tl,yz⟩
 case round =>
 clear tl yz;obtain⟨z,nz,cz,AZ,rfl,HZ,hO,hb⟩:=hrel
 by_cases yy:(nz:Int)<64
 ·have yp:=hO.alloc (.cells #[.int .u8 0] 5);have zP:=hb.alloc hb.size (.cells #[.int .u8 0] 5);have S0:Hid ((K++List.replicate z (0:UInt8)).length=nz):=by rw[Hid,List.length_append,List.length_replicate,HZ.out.1]
  go_wp2_with (at_builtin;refine zf ?_)
  refine zv rfl (.tmp 20) (.tmp 21) rfl w.heap.size _ _ rfl yp _ 1 _ [0] rfl rfl (Src.new _ _ _ _ rfl _ rfl) (by rw[S0.out];simp only[List.length_singleton];omega) zP.size fun v' w5 zB yg hat5=>?_
  have xz:=zm zP yg (fun q hq=>(hO.lt q hq).1);rw[List.append_assoc,← List.replicate_succ']at zB;obtain⟨A5,c5,rfl,_⟩:=zB.form;have my:Hid ((K++List.replicate (z+1) (0:UInt8)).length=nz+1):=by rw[Hid,List.length_append,List.length_replicate];have:=HZ.out.1;omega
  rw[my.out]at zB⊢;clear hO hb yp zP yg hat5;go_wp2_with fail
  go_roundw
  case rel=>exact⟨z+1,nz+1,c5,A5,rfl,⟨by have:=HZ.out.1;omega,by have:=HZ.out;have:=ik.out;omega⟩,zB,xz⟩
  case measure=>simp only[rt];omega
 have hz:z=64-K.length:=by have:=HZ.out;have:=ik.out;omega
 have E5:nz=64:=by have:=HZ.out;have:=ik.out;omega
 rw[hz]at hO;have oO:=Hh (jk ik.out);obtain⟨F,hF⟩:∃ F,rp K=F:=⟨_,rfl⟩
 have SF:OwnB wr w.heap.size (.slice AZ nz cz) F:=by rw[← hF];exact hO
 rw[hF]at Oc Od oO;subst E5;obtain⟨W0,N6⟩:∃ W,W=wr:=⟨_,rfl⟩
 subst N6;have Cp:=Hh SF.src;have Ji:=Hh hb;have yE:=Below.refl W0.heap.size W0;clear hO SF hF hz hb yy;go_wp2_with fail
 go_loopw [6,7,25] (fun v6 v7 v25 wx=>∃ (j ni ci no co:Nat) (AI AO:Option Addr),v6=.slice AI ni ci∧v7=.slice AO no co∧v25=.int .i64 (j:Int)∧Hid (j≤64∧ni=j∧no=j)∧OwnB wx W0.heap.size (.slice AI ni ci) ((F.take j).map (sV 54))∧OwnB wx W0.heap.size (.slice AO no co) ((F.take j).map (sV 92))∧Apart (.slice AI ni ci) (.slice AO no co)∧Below W0.heap.size W0 wx) (fun _ _ v25 _=>(64-intOf v25).toNat)
 case atStart=>exact⟨0,0,0,0,0,none,none,rfl,rfl,rfl,⟨by omega,rfl,rfl⟩,OwnB.nil _ _,OwnB.nil _ _,(fun q hq=>by cases hq),yE⟩
 case round =>
 clear yE;obtain⟨j,ni,ci,no,co,AI,AO,rfl,rfl,rfl,HJ,hI,hO,N8,hb⟩:=hrel
 by_cases yy:(j:Int)<64
 ·have Ss:j<F.length:=by rw[oO.out];omega
  obtain⟨fb,fo,rfl,nB⟩:=(Cp.out.below hb) (by intro h;have:=congrArg List.length h;rw[List.length_map]at this;simp at this;rw[this]at Ss;simp at Ss)
  have cl:wr.cell? ⟨fb,fo+j,none⟩=some (zg F[j]):=nB j _ (by rw[List.getElem?_map,List.getElem?_eq_getElem Ss];rfl);have Oi:=Hh (gv 54 F[j]);have Oj:=Hh (gv 92 F[j]);have LN:=Hh (gO Ss 54);have LP:=Hh (gO Ss 92);obtain⟨u,hu⟩:∃ u,F[j]=u:=⟨_,rfl⟩
  rw[hu]at cl Oi Oj LN LP
  have Jt:Hid (((F.take j).map (sV 54)).length=j∧((F.take j).map (sV 92)).length=j∧((F.take (j+1)).map (sV 54)).length=j+1∧((F.take (j+1)).map (sV 92)).length=j+1):=by
   rw[Hid]
   simp only[List.length_map,List.length_take,oO.out]
   omega
  have tG:=hI.alloc (.cells #[zg (sV 54 u)] 5);have yp:=hO.alloc (.cells #[zg (sV 54 u)] 5);have zP:=hb.alloc hb.size (.cells #[zg (sV 54 u)] 5);rw[Oi.out]at tG yp zP;clear hu nB Ss;go_wp2_with (at_builtin;refine zf ?_)
  refine zv rfl (.tmp 29) (.tmp 32) rfl W0.heap.size (.slice AI ni ci) _ rfl tG _ 1 _ [sV 54 u] rfl rfl (Src.new _ _ _ _ rfl _ (by simp only[List.map_cons,List.map_nil];rw[Oi.out])) (by rw[Jt.out.1];simp only[List.length_singleton];omega) zP.size fun vi w5 fR yg hat5=>?_
  have xz:=zm zP yg (fun q hq=>(hI.lt q hq).1);have zB:=yp.kept yg N8.ne;have Rc:=N8.step yp hat5;rw[LN.out]at fR;obtain⟨A5,c5,rfl,_⟩:=fR.form;rw[Jt.out.2.2.1]at fR Rc⊢;have VV:=fR.alloc (.cells #[zg (sV 92 u)] 5);have qf:=zB.alloc (.cells #[zg (sV 92 u)] 5);have y9:=xz.alloc xz.size (.cells #[zg (sV 92 u)] 5);rw[Oj.out]at VV qf y9;clear hI hO tG yp zP yg hat5 N8 hb cl;go_wp2_with (at_builtin;refine zf ?_)
  refine zv rfl (.tmp 34) (.tmp 37) rfl W0.heap.size (.slice AO no co) _ rfl qf _ 1 _ [sV 92 u] rfl rfl (Src.new _ _ _ _ rfl _ (by simp only[List.map_cons,List.map_nil];rw[Oj.out])) (by rw[Jt.out.2.1];simp only[List.length_singleton];omega) y9.size fun vo w7 wY hg7 hat7=>?_
  have xU:=zm y9 hg7 (fun q hq=>(zB.lt q hq).1);have Pn:=VV.kept hg7 Rc.symm.ne;have Ln:=(Rc.symm.step VV hat7).symm;rw[LP.out]at wY;obtain⟨A7,c7,rfl,_⟩:=wY.form;rw[Jt.out.2.2.2]at wY Ln⊢;clear fR zB VV qf xz y9 hg7 hat7 Rc;go_wp2_with fail
  go_roundw
  case rel=>exact⟨j+1,j+1,c5,j+1,c7,A5,A7,rfl,rfl,by go_num,⟨by omega,rfl,rfl⟩,Pn,wY,Ln,xU⟩
  case measure=>simp[intOf];omega
 have Gu:j=64:=by have:=HJ.out.1;omega
 have Ke:ni=64:=by have:=HJ.out;omega
 have Zh:no=64:=by have:=HJ.out;omega
 subst Gu Ke Zh;rw[List.take_of_length_le (by rw[oO.out];exact Nat.le_refl _),← Oc.out]at hI;rw[List.take_of_length_le (by rw[oO.out];exact Nat.le_refl _),← Od.out]at hO;have qM:=Ji.out.trans (hb.mono Ji.out.size);have oR:Hid ((tk 54 key).length+b.length≤1099511627):=by rw[Hid,uz];have:=HN.out.2.2.2;omega
 rw[show((64:Nat):Int)=64 from rfl]at yy⊢;go_wp2_with (at_builtin;refine zf ?_)
 refine zv rfl (.tmp 41) (.tmp 42) rfl W0.heap.size (.slice AI 64 ci) _ rfl hI B k d b rfl HN.out.2.2.1 (HT.out.below qM) (by have:=oR.out;omega) hb.size fun vi w5 fR yg hat5=>?_
 have xz:=zm hb yg (fun q hq=>(hI.lt q hq).1);have zB:=hO.kept yg N8.ne;have qA:Hid (pf (tk 92 key++pf (tk 54 key++b))=rQ key b):=rfl;rw[← List.length_append]at oR;obtain⟨I,FQ⟩:∃ I,tk 54 key++b=I:=⟨_,rfl⟩
 rw[FQ]at fR qA oR;obtain⟨A5,c5,rfl,_⟩:=fR.form;obtain⟨m5,sT⟩:∃ m,I.length=m:=⟨_,rfl⟩
 rw[sT]at fR⊢;have SM:=Hh (mD (c:=c5) sT.symm oR.out w5 fR.src);clear hI hO N8 hb yg hat5 FQ fR sT;go_wp2_with fail
 refine SM.out.mono ?_
 rintro e w6 ⟨r6,rfl,vu⟩
 obtain⟨A6,c6,rfl,_⟩:=vu.own.form;rw[tT];have qf:=zB.below vu.2;have y9:=xz.trans (vu.2.mono xz.size);have Q8:=vu.own.src;clear zB xz vu SM;go_wp2_with (at_builtin;refine zf ?_)
 refine zv rfl (.tmp 40) (.tmp 44) rfl W0.heap.size (.slice AO 64 co) _ rfl qf A6 32 c6 (pf I) rfl (tT _).symm Q8 (by rw[uz,tT];omega) y9.size fun vo w7 wY hg7 hat7=>?_
 have xU:=zm y9 hg7 (fun q hq=>(qf.lt q hq).1);have cJ:Hid ((tk 92 key++pf I).length=96):=by rw[Hid,List.length_append,uz,tT]
 obtain⟨O,FY⟩:∃ O,tk 92 key++pf I=O:=⟨_,rfl⟩
 rw[FY]at wY cJ qA;obtain⟨A7,c7,rfl,_⟩:=wY.form;rw[cJ.out]at wY⊢;have SM:=Hh (mD (c:=c7) (n:=96) cJ.out.symm (by rw[cJ.out];omega) w7 wY.src);have yX:=Ji.out.trans (xU.mono Ji.out.size);clear qf y9 Q8 hg7 hat7 FY wY xU qM;go_wp2_with fail
 refine SM.out.mono ?_
 rintro e w8 ⟨r8,rfl,pU⟩
 have ho:=pU.own.more (base':=w.heap.size) yX.size;have pj:=yX.trans (pU.2.mono yX.size);clear pU yX SM;go_wp2_with fail
 go_ret
 exact⟨_,rfl,by rw[← qA.out];exact⟨ho,pj⟩⟩
theorem eu {A:Option Addr}{c:Nat}{key:List UInt8}{n:Nat}(hn:n=key.length) (u5:key.length≤1099511627) {B:Option Addr}{d:Nat}{b:List UInt8}{k:Nat}(hk:k=b.length) (hmb:b.length≤1099511000) (w:World) (hS:Src w A (key.map zg)) (hT:Src w B (b.map zg)) :
  Calls Tryz.prog 32 #[.slice A n c,.slice B k d] w fun e w'=>∃ r,e=.returned r∧Fresh w (rQ key b) r w':=by
 have HM:=Hh (gH (c:=c) (d:=d) hn u5 hk hmb w hS hT);clear hn u5 hk hmb hS hT;go_enter Tryz.func32,Tryz.ntmps32
 go_wp2_with fail
 refine HM.out.mono ?_
 rintro e w1 ⟨r1,rfl,rN⟩
 go_wp2_with fail
 go_ret
 exact⟨_,rfl,rN⟩
theorem tp {A:Option Addr}{c:Nat}{prk:List UInt8}{np:Nat}(hn:np=prk.length) (u5:prk.length≤1099511627) {B:Option Addr}{d:Nat}{info:List UInt8}{ni:Nat}(hk:ni=info.length) (hmb:info.length≤1099510000) (n:Nat) (Qi:n≤8160) {H:Snap}(w:World) (hH:Holds w H) (hS:Src w A (prk.map zg)) (hT:Src w B (info.map zg)) :
  Calls Tryz.prog 20 #[.slice A np c,.slice B ni d,.int .i64 (n:Int)] w (Tj w H prk info n):=by
 have HN:=Hh (And.intro hn (And.intro hk (And.intro hmb Qi)));have HS:=Hh hS;have HT:=Hh hT;have HM:=Hh (fun(B':Option Addr) (d':Nat) (b:List UInt8) (k:Nat) (hk:k=b.length) (hmb:b.length≤1099511000) (w:World) (hS:Src w A (prk.map zg)) (hT:Src w B' (b.map zg))=>gH (c:=c) (d:=d') hn u5 hk hmb w hS hT);have n1:¬ ((n:Int)<0):=by omega
 have n2:¬ ((8160:Int)<(n:Int)):=by omega
 have ed:=Grows.refl hH;clear hn u5 hk hmb Qi hS hT hH;go_enter Tryz.func20,Tryz.ntmps20
 go_wp2_with fail
 go_loopw [8,9,10] (fun v8 v9 v10 wr=>∃ (j no nt oc tc:Nat) (OA TA:Option Addr) (Hr:Snap),v8=.slice OA no oc∧v9=.slice TA nt tc∧v10=.int .i64 ((j:Int)+1)∧Hid (no=32*j∧32*j<n+32∧nt=(sx prk info j).length)∧OwnB wr w.heap.size (.slice OA no oc) (oH prk info j)∧Hid (∀ q,(Value.slice OA no oc).ownBlock=some q→Hr q=none)∧Hid (IsBytes Hr TA tc (sx prk info j))∧Grows w H wr Hr) (fun _ _ v10 _=>300-(intOf v10).toNat)
 case atStart=>exact⟨0,0,0,0,0,none,none,H,rfl,rfl,rfl,⟨rfl,by omega,rfl⟩,OwnB.nil _ _,(fun q hq=>by cases hq),IsBytes.nil _,ed⟩
 case round =>
 clear ed;obtain⟨j,no,nt,oc,tc,OA,TA,Hr,rfl,rfl,rfl,HJ,hO,HO,IF,hG⟩:=hrel
 by_cases yy:(no:Int)<(n:Int)
 ·have NG:(j:Int)+1<256:=by have:=HJ.out;have:=HN.out;omega
  have sv:Hid (32*(j+1)<n+32):=by have:=HJ.out.1;rw[Hid];omega
  have I5:Hid ((oH prk info j).length≤8192):=by have:=HJ.out;have:=HN.out;rw[Hid,rn];omega
  have K1:IntKind.u8.wrap ((j:Int)+1)=(j:Int)+1:=IntWalk.u8_in _ (by omega);have hb:=hG.below
  have te:=SrcR.lit3 (n1:=nt) (c1:=tc) (n2:=ni) (c2:=d) (n3:=1) (c3:=1) (wr.alloc (.cells #[.int .u8 ((j:Int)+1)] 5)) 23 HJ.out.2.2 HN.out.2.1 (l3:=[UInt8.ofNat (j+1)]) rfl
   ((Src.of_row IF.out.row hG.holds).alloc _) ((HT.out.below hb).alloc _) (Src.new wr #[.int .u8 ((j:Int)+1)] 5 wr.heap.size rfl _ (by simp only[List.map_cons,List.map_nil];rw[bQ (j+1) (by omega),Int.natCast_add];rfl))
  have yY:=(hG.alloc (.cells #[.int .u8 ((j:Int)+1)] 5)).alloc (.cells #[.slice TA nt tc,.slice B ni d,.slice (some ⟨wr.heap.size,0,none⟩) 1 1] 23);have tl:=(hO.alloc (.cells #[.int .u8 ((j:Int)+1)] 5)).alloc (.cells #[.slice TA nt tc,.slice B ni d,.slice (some ⟨wr.heap.size,0,none⟩) 1 1] 23);obtain⟨P0,Xs⟩:∃ P,wr.heap.size=P:=⟨_,rfl⟩
  obtain⟨w1,nY⟩:∃ w1,wr.alloc (.cells #[.int .u8 ((j:Int)+1)] 5)=w1:=⟨_,rfl⟩
  rw[Xs,nY]at te yY tl;have fL:w1.heap.size=P0+1:=by rw[← nY,zW,Xs]
  obtain⟨w2,qK⟩:∃ w2,w1.alloc (.cells #[.slice TA nt tc,.slice B ni d,.slice (some ⟨P0,0,none⟩) 1 1] 23)=w2:=⟨_,rfl⟩
  rw[qK]at te yY tl;rw[fL]at te;have HW:=Hh (And.intro Xs (And.intro nY qK));have JN:=Hh (Yc (n:=3) (c:=3) rfl (by simp) (by have h1:=ko prk info j;have h2:=HN.out.2.2.1;simp;omega) w2 te);clear Xs nY fL qK te hG hO hb;go_wp2_with fail
  rw[HW.out.1,HW.out.2.1,HW.out.2.2]
  refine JN.out.mono ?_
  rintro e w3 ⟨r3,rfl,iX⟩
  have kI:Hid ([sx prk info j,info,[UInt8.ofNat (j+1)]].flatten.length≤1099511000):=by have h1:=ko prk info j;have h2:=HN.out.2.2.1;rw[Hid];simp;omega
  have qA:Hid (rQ prk [sx prk info j,info,[UInt8.ofNat (j+1)]].flatten=sx prk info (j+1)):=by rw[Hid];simp[sx]
  obtain⟨I,hI⟩:∃ I,[sx prk info j,info,[UInt8.ofNat (j+1)]].flatten=I:=⟨_,rfl⟩
  rw[hI]at iX kI qA;obtain⟨A3,c3,rfl,_⟩:=iX.own.form;obtain⟨m3,ZX⟩:∃ m,I.length=m:=⟨_,rfl⟩
  rw[ZX];have xf:=yY.below_ iX.2;have qC:=tl.below iX.2;have lX:=Hh (HM.out _ c3 _ _ ZX.symm kI.out w3 (HS.out.below xf.below) iX.own.src);clear hI ZX iX yY tl JN;go_wp2_with fail
  refine lX.out.mono ?_
  rintro e w4 ⟨r4,rfl,oU⟩
  rw[qA.out]at oU;have kD:=qC.below oU.2;obtain⟨A4,c4,rfl,_⟩:=oU.own.form;obtain⟨H4,uv,sW,_⟩:=Fresh.snapB xf.holds oU;have xC:=xf.trans uv;have Md:Hid (∀ q,(Value.slice OA no oc).ownBlock=some q→H4 q=none):=fun q hq=>uv.none (HO.out q hq) (qC.lt q hq).2
  have rM:(sx prk info (j+1)).length=32:=by rw[sx,tC]
  rw[rM];have MS:=Hh sW;clear xf uv sW oU qC lX;go_wp2_with (at_builtin;refine zf ?_)
  refine zv rfl (.tmp 32) (.tmp 33) rfl w.heap.size (.slice OA no oc) _ rfl kD A4 32 c4 (sx prk info (j+1)) rfl rM.symm (Src.of_row MS.out.row xC.holds) (by have:=I5.out;rw[rM];omega) xC.below.size fun v' w5 zB yg hat5=>?_
  rw[show oH prk info j++sx prk info (j+1)=oH prk info (j+1) from rfl]at zB;obtain⟨A5,c5,rfl,_⟩:=zB.form
  have zK:Grows w H w5 H4:=by
   refine⟨zm xC.below yg (fun q hq=>(kD.lt q hq).1),xC.le,xC.holds.grown yg (fun q hq=>Md.out q hq),xC.fresh⟩
  rw[rn]at zB hat5⊢
  have Me:Hid (∀ q,(Value.slice A5 (32*(j+1)) c5).ownBlock=some q→H4 q=none):=fun q hq=>by
   rcases hat5 with h | ⟨g',h1,h2⟩
   ·exact Md.out q (by rw[← h,hq])
   rw[hq]at h1;injection h1 with h1
   subst h1
   exact xC.holds.none_of_ge h2
  clear kD yg hat5 xC K1 rM;have kM:IntKind.i64.wrap ((j:Int)+1+1)=(j:Int)+1+1:=IntWalk.i64_in _ (by omega);obtain⟨no',ZL⟩:∃ x,32*(j+1)=x:=⟨_,rfl⟩
  have Zc:=Hh ZL;rw[ZL]at zB Me⊢;clear ZL;go_wp2_with fail
  go_roundw
  case rel=>exact⟨j+1,no',32,c5,c4,A5,A4,H4,rfl,rfl,by go_num,⟨Zc.out.symm,sv.out,by rw[sx,tC]⟩,zB,Me,MS,zK⟩
  case measure=>have:=sv.out;have:=HN.out;simp[intOf];omega
 have fQ:Hid ((oH prk info j).take n=tw prk info n):=eE (by have:=HJ.out.1;omega) HJ.out.2.1;have lV:=rn prk info j;have x9:n≤(oH prk info j).length:=by rw[lV];have:=HJ.out.1;omega
 obtain⟨H6,NJ,NF,vu,_,y9⟩:=hO.snap hG.holds (fun q hq=>HO.out q (by cases OA with | none=>cases hq | some p=>exact hq));have Su:=y9.le;have Hd:(n:Int)≤(oc:Int):=by omega
 have HR:Hid (∃ A' c',A'=A'∧c'=c'):=⟨0,0,rfl,rfl⟩
 have zK:Grows w H wr H6:=⟨hG.below,hG.le.trans NJ,NF,fun q o hq=>by
  rcases vu q o hq with h | h
  ·exact hG.fresh q o h
  exact .inr (hO.lt q (by cases OA with | none=>cases h | some p=>exact h)).1⟩
 have Hm:=Hh (y9.take' n);have Sb:=Hh y9.max;clear hO hG NJ NF vu lV Su x9 y9 HR;go_wp2_with fail
 go_ret2
 refine⟨_,_,H6,rfl,zK, ?_⟩
 rw[← fQ.out]
 exact Hm.out
def ky (w:World) (H:Snap) (x:Ep) (s:List UInt8) (e:Ending) (w':World):Prop:=∃ A1 c1 A2 c2 A3 c3 H',e=.returned (.tuple #[.slice A1 16 c1,.slice A2 13 c2,.slice A3 16 c3])∧Grows w H w' H'∧
 IsBytes H' A1 c1 (tw (rQ [] x.secret) (uI s x.id true [75,101,121] 16) 16)∧IsBytes H' A2 c2 (tw (rQ [] x.secret) (uI [] x.id true [73,86] 13) 13)∧IsBytes H' A3 c3 (tw (rQ [] x.secret) (uI [] x.id true [83,69,75,101,121] 16) 16)
theorem g8 {H:Snap}{x:Ep}{a:EAd}(hx:EpA H x a) {A:Option Addr}{c:Nat}{s:List UInt8}{n:Nat}(hn:n=s.length) (hl:s.length≤1099511) (w:World) (hH:Holds w H) (hS:Src w A (s.map zg)) :
  Calls Tryz.prog 10 #[.agg (epQ x a),.slice A n c] w (ky w H x s):=by
 obtain⟨il,rC⟩:∃ n,n=x.id.length:=⟨_,rfl⟩
 obtain⟨sl,sP⟩:∃ n,n=x.secret.length:=⟨_,rfl⟩
 obtain⟨ml,rS⟩:∃ n,x.members.length=n:=⟨_,rfl⟩
 have HN:=Hh (And.intro hn (And.intro hl (And.intro rC (And.intro sP hx.small))));have iE:=Hh hx.id;have IE:=Hh hx.secret;have HS:=Hh hS;show Calls Tryz.prog 10 #[.agg (epC x.number a.ia x.id.length a.ic a.sa x.secret.length a.sc a.ma x.members.length a.mc),.slice A n c] w (ky w H x s)
 rw[← rC,← sP,rS];have hK:=Blk.new w 33 (epC x.number a.ia il a.ic a.sa sl a.sc a.ma ml a.mc);have hG:=(Grows.refl hH).alloc (.cells (epC x.number a.ia il a.ic a.sa sl a.sc a.ma ml a.mc) 33);have c2:=hK.cell 2 rfl;have hP:=Hh (show(rQ [] x.secret).length=32 from tC _ _);have EX:=Hh (Zu (A:=none) (c:=0) (n:=0) (key:=[]) rfl (by simp) (d:=a.sc) HN.out.2.2.2.1 (by have:=HN.out.2.2.2.2;omega) _ (Src.nil _ _) (Src.of_row IE.out.row hG.holds));clear hn hl hx hH hS rC sP rS;go_enter Tryz.func10,Tryz.ntmps10
 go_wp2_with fail
 refine EX.out.mono ?_
 rintro e w1 ⟨r1,rfl,rN⟩
 obtain⟨PA,pc,rfl,_⟩:=rN.own.form;obtain⟨H1,um,zP,_⟩:=Fresh.snapB hG.holds rN;rw[hP.out];replace hK:=hK.below rN.2;replace hG:=hG.trans um;have fI:=Hh zP;replace iE:=Hh (iE.out.mono um.le);clear EX rN um zP c2;have c1:=hK.cell 1 rfl;have II:=Hh (oZ (A:=A) (c:=c) (id:=s) HN.out.1 HN.out.2.1 (d:=a.ic) HN.out.2.2.1 HN.out.2.2.2.2.1 true ⟨#[75,101,121]⟩ (by decide) 16 (by omega) _ (HS.out.below hG.below) (Src.of_row iE.out.row hG.holds));go_wp2_with fail
 refine II.out.mono ?_
 rintro e wi0 ⟨ri0,rfl,pV⟩
 have qJ:=sI s x.id true (⟨#[75,101,121]⟩:ByteArray).data.toList 16
 have oR:Hid ((uI s x.id true (⟨#[75,101,121]⟩:ByteArray).data.toList 16).length≤1099510000):=by
  have h1:=HN.out.2.1;have h2:=HN.out.2.2.2.2.1;have h3:((⟨#[75,101,121]⟩:ByteArray).data.toList).length≤10:=by decide
  rw[Hid];have h0:([]:List UInt8).length=0:=rfl
  omega
 obtain⟨F0,hF⟩:∃ F,uI s x.id true (⟨#[75,101,121]⟩:ByteArray).data.toList 16=F:=⟨_,rfl⟩
 have Hv:=Hh hF;rw[hF]at pV oR;obtain⟨fA,fc,rfl,_⟩:=pV.own.form;replace hK:=hK.below pV.2;replace hG:=hG.below_ pV.2;obtain⟨fn0,im⟩:∃ n,F0.length=n:=⟨_,rfl⟩
 rw[im];have XX:=Hh (li (c:=pc) (np:=32) hP.out.symm (by rw[hP.out];omega) (d:=fc) im.symm oR.out 16 (by omega) wi0 hG.holds (Src.of_row fI.out.row hG.holds) pV.own.src);clear hF pV im c1 II qJ;go_wp2_with fail
 refine XX.out.mono ?_
 rintro e wk0 ⟨kA0,kc0,D0,rfl,pS,cE⟩
 replace hK:=hK.below pS.below;replace fI:=Hh (fI.out.mono pS.le);replace iE:=Hh (iE.out.mono pS.le);have Ur:=Hh cE;replace hG:=hG.trans pS;clear pS cE XX oR;have c1:=hK.cell 1 rfl;have II:=Hh (oZ (A:=none) (c:=0) (n:=0) (id:=[]) rfl (by simp) (d:=a.ic) HN.out.2.2.1 HN.out.2.2.2.2.1 true ⟨#[73,86]⟩ (by decide) 13 (by omega) _ (Src.nil _ _) (Src.of_row iE.out.row hG.holds));go_wp2_with fail
 refine II.out.mono ?_
 rintro e wi1 ⟨ri1,rfl,pV⟩
 have qJ:=sI [] x.id true (⟨#[73,86]⟩:ByteArray).data.toList 13
 have oR:Hid ((uI [] x.id true (⟨#[73,86]⟩:ByteArray).data.toList 13).length≤1099510000):=by
  have h1:=HN.out.2.1;have h2:=HN.out.2.2.2.2.1;have h3:((⟨#[73,86]⟩:ByteArray).data.toList).length≤10:=by decide
  rw[Hid];have h0:([]:List UInt8).length=0:=rfl
  omega
 obtain⟨F1,hF⟩:∃ F,uI [] x.id true (⟨#[73,86]⟩:ByteArray).data.toList 13=F:=⟨_,rfl⟩
 have MU:=Hh hF;rw[hF]at pV oR;obtain⟨fA,fc,rfl,_⟩:=pV.own.form;replace hK:=hK.below pV.2;replace hG:=hG.below_ pV.2;obtain⟨fn1,im⟩:∃ n,F1.length=n:=⟨_,rfl⟩
 rw[im];have XX:=Hh (li (c:=pc) (np:=32) hP.out.symm (by rw[hP.out];omega) (d:=fc) im.symm oR.out 13 (by omega) wi1 hG.holds (Src.of_row fI.out.row hG.holds) pV.own.src);clear hF pV im c1 II qJ;go_wp2_with fail
 refine XX.out.mono ?_
 rintro e wk1 ⟨kA1,kc1,D6,rfl,pS,cE⟩
 replace hK:=hK.below pS.below;replace fI:=Hh (fI.out.mono pS.le);replace iE:=Hh (iE.out.mono pS.le);replace Ur:=Hh (Ur.out.mono pS.le);have Pf:=Hh cE;replace hG:=hG.trans pS;clear pS cE XX oR;have c1:=hK.cell 1 rfl;have II:=Hh (oZ (A:=none) (c:=0) (n:=0) (id:=[]) rfl (by simp) (d:=a.ic) HN.out.2.2.1 HN.out.2.2.2.2.1 true ⟨#[83,69,75,101,121]⟩ (by decide) 16 (by omega) _ (Src.nil _ _) (Src.of_row iE.out.row hG.holds));go_wp2_with fail
 refine II.out.mono ?_
 rintro e wi2 ⟨ri2,rfl,pV⟩
 have qJ:=sI [] x.id true (⟨#[83,69,75,101,121]⟩:ByteArray).data.toList 16
 have oR:Hid ((uI [] x.id true (⟨#[83,69,75,101,121]⟩:ByteArray).data.toList 16).length≤1099510000):=by
  have h1:=HN.out.2.1;have h2:=HN.out.2.2.2.2.1;have h3:((⟨#[83,69,75,101,121]⟩:ByteArray).data.toList).length≤10:=by decide
  rw[Hid];have h0:([]:List UInt8).length=0:=rfl
  omega
 obtain⟨F2,hF⟩:∃ F,uI [] x.id true (⟨#[83,69,75,101,121]⟩:ByteArray).data.toList 16=F:=⟨_,rfl⟩
 have Hw:=Hh hF;rw[hF]at pV oR;obtain⟨fA,fc,rfl,_⟩:=pV.own.form;replace hK:=hK.below pV.2;replace hG:=hG.below_ pV.2;obtain⟨fn2,im⟩:∃ n,F2.length=n:=⟨_,rfl⟩
 rw[im];have XX:=Hh (li (c:=pc) (np:=32) hP.out.symm (by rw[hP.out];omega) (d:=fc) im.symm oR.out 16 (by omega) wi2 hG.holds (Src.of_row fI.out.row hG.holds) pV.own.src);clear hF pV im c1 II qJ;go_wp2_with fail
 refine XX.out.mono ?_
 rintro e wk2 ⟨kA2,kc2,D7,rfl,pS,cE⟩
 replace hK:=hK.below pS.below;replace fI:=Hh (fI.out.mono pS.le);replace iE:=Hh (iE.out.mono pS.le);replace Ur:=Hh (Ur.out.mono pS.le);replace Pf:=Hh (Pf.out.mono pS.le);have jU:=Hh cE;replace hG:=hG.trans pS;clear pS cE XX oR;go_wp2_with fail
 go_ret3
 exact⟨kA0,kc0,kA1,kc1,kA2,kc2,_,rfl,hG,by have h:=Ur.out;rw[← Hv.out]at h;exact h,by have h:=Pf.out;rw[← MU.out]at h;exact h,by have h:=jU.out;rw[← Hw.out]at h;exact h⟩
end Go.Proofs.YtjpcnhncoidliaaGreatDoor
