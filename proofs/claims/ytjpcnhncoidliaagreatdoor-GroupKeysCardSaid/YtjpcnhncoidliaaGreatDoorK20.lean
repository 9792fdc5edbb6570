/- squeezed. Walks: the info of a derivation, b -/
import Derived.Deep.DeepCutAuto
import Derived.Deep.CutBlock
import Derived.Test.YtjpcnhncoidliaaGreatDoorK19
set_option linter.unusedVariables false
set_option linter.unusedSimpArgs false
set_option maxRecDepth 100000
set_option maxHeartbeats 12800000
namespace Go.Proofs.YtjpcnhncoidliaaGreatDoor
open Go.RowKit
abbrev wH (b:List UInt8):Itm:=.mk 2 0 b []
abbrev i5 (b:List UInt8):Itm:=.mk 3 0 b []
theorem gT (b:List UInt8):zX (wH b)=vX b:=by
 rw[dB (lv:=0) (rj 2 (.inl rfl) b 0 (fun h=>by omega)) (.inl rfl)];rfl
theorem Vp (b:List UInt8) (hv:Lib.validD b=true):zX (i5 b)=lH b:=by
 rw[dB (lv:=0) (rj 3 (.inr rfl) b 0 (fun _=>hv)) (.inr rfl)];rfl
theorem jl {l:List Itm}(h:GoodL l 1):Good (.mk 4 0 [] l) 0:=by
 rw[Good]
 refine⟨?_,h,fun h5=>absurd h5 (by decide)⟩
 rw[yF,if_neg (by simp[xR,Itm.kind])]
 simp[vV,Itm.kind,Itm.bytes,Itm.n]
theorem gS {l:List Itm}(h:GoodL l 1):zX (.mk 4 0 [] l)=zj 4 l.length++ym l:=by
 rw[al (lv:=0) (jl h) ⟨by simp[Itm.kind],by simp[Itm.kind]⟩];rfl
def tx (ctx:List UInt8):Bool→Itm
 | true=>wH ctx
 | false=>.mk 7 22 [] []
theorem YB (ctx:List UInt8) (has:Bool):zX (tx ctx has)=(if has then vX ctx else [246]):=by
 cases has
 ·rfl
 exact gT ctx
theorem Zr (ctx:List UInt8) (has:Bool) (lv:Nat):Good (tx ctx has) lv:=by
 cases has
 ·rw[tx,Good]
  exact⟨by rw[yF,if_pos (by simp[xR,Itm.kind])];simp[wo,Itm.kind,Itm.bytes,Itm.items,Itm.n],by rw[GoodL];trivial,fun h5=>absurd h5 (by decide)⟩
 exact rj 2 (.inl rfl) ctx lv (fun h=>by omega)
theorem uC (k:Int) (b:List UInt8) (h:b.length≤1099511627776):Modest (.mk k 0 b []):=by
 rw[Modest,ModestL]
 exact⟨h,by simp,trivial⟩
theorem rf (n:Int):Modest (zh n):=by
 unfold zh
 split <;> (rw[Modest,ModestL];simp)
theorem es (ctx:List UInt8) (has:Bool) (h:ctx.length≤1099511):Modest (tx ctx has):=by
 cases has
 ·rw[tx,Modest,ModestL];exact⟨by simp,by simp,trivial⟩
 exact uC 2 ctx (by omega)
def bW (id ctx:List UInt8) (has:Bool) (kind:List UInt8) (m:Int):List Itm:=[wH id,tx ctx has,zh 10,i5 kind,zh m]
theorem g6 {id ctx:List UInt8}{has:Bool}{kind:List UInt8}{m:Int}(hv:Lib.validD kind=true):GoodL (bW id ctx has kind m) 1:=by
 rw[bW,GoodL,GoodL,GoodL,GoodL,GoodL,GoodL]
 exact⟨rj 2 (.inl rfl) id 1 (fun h=>by omega),Zr ctx has 1,ww 10 1,rj 3 (.inr rfl) kind 1 (fun _=>hv),ww m 1,trivial⟩
theorem Vn {id ctx:List UInt8}{has:Bool}{kind:List UInt8}{m:Int}(hv:Lib.validD kind=true):zX (.mk 4 0 [] (bW id ctx has kind m))=uI id ctx has kind m:=by
 rw[gS (g6 hv),uI]
 simp only[bW,ym,gT,YB,wW,Vp kind hv,List.flatten_cons,List.flatten_nil,List.length_cons,List.length_nil]
theorem mB {A:Option Addr}{c:Nat}{id:List UInt8}{n:Nat}(hn:n=id.length) (hid:id.length≤1099511) {B:Option Addr}{d:Nat}{ctx:List UInt8}{k:Nat}(hk:k=ctx.length) (hctx:ctx.length≤1099511) (has:Bool) (kind:ByteArray) (hkind:kind.size≤1000) (vD:Lib.validD kind.data.toList=true) (m:Int) (hm:0≤m∧m≤100000) {H:Snap}(w:World) (hH:Holds w H) (hS:Src w A (id.map zg)) (hT:Src w B (ctx.map zg)) :
  Calls Tryz.prog 33 #[.slice A n c,.slice B k d,.bool has,.string kind,.int .i64 m] w fun e w'=>∃ r,e=.returned r∧Fresh w (uI id ctx has kind.data.toList m) r w':=by
 have HN:=Hh (And.intro hn (And.intro hid (And.intro hk (And.intro hctx (And.intro hkind hm)))));have HS:=Hh hS;have HT:=Hh hT;have En:=Hh vD;have hG:=(Grows.refl hH).alloc (.cells #[.int .i64 7,.int .u64 22,.slice none 0 0,.slice none 0 0] 78);have hK:=Blk.new w 78 #[.int .i64 7,.int .u64 22,.slice none 0 0,.slice none 0 0];have zG:H w.heap.size=none:=hH.none_of_ge (Nat.le_refl _);clear hn hid hk hctx hkind hm hS hT hH vD;go_enter Tryz.func33,Tryz.ntmps33
 go_upto_if 13 with fail
 go_cut [] (fun wx=>∃ (ba:Option Addr) (bc:Nat) (ia:Option Addr) (ic:Nat) (Hr:Snap),Grows w H wx Hr∧Hr w.heap.size=none∧Blk wx w.heap.size 78 #[.int .i64 (tx ctx has).kind,.int .u64 (tx ctx has).n,.slice ba (tx ctx has).bytes.length bc,.slice ia (tx ctx has).items.length ic]∧IsItem Hr ba bc ia ic (tx ctx has))
 case first =>
  cases has with
  | false =>
   go_wp2_with fail
   go_meet
   exact⟨none,0,none,0,H,hG,zG,hK,IsItem.plain _ 7 22 (by omega) (by omega)⟩
  | true =>
  have BY:=Hh (vB (c:=d) HN.out.2.2.1 (by have:=HN.out.2.2.2.1;omega) _ (HT.out.below hG.below) hG.holds);go_wp2_with fail
  refine BY.out.mono ?_
  rintro e w1 ⟨v1,rfl,ba,bc,ia,ic,H1,rfl,um,tG⟩
  have QW:=hK.below um.below;have oY:=um.none zG hK.lt;have yY:=hG.trans um;have qA:=Hh tG;clear hK hG um tG BY;go_wp2_with (with_reducible refine zx ?_)
  refine stI QW fun w2 hK2 hg2=>?_
  have xf:=yY.grownOwn oY (Nat.le_refl _) hg2;clear yY hg2 QW;go_wp2_with fail
  go_meet
  exact⟨ba,bc,ia,ic,H1,xf,oY,hK2,qA.out⟩
 case rest =>
 clear hG hK;obtain⟨ba,bc,ia,ic,Hr,hG,lY,hQ,FP⟩:=hcut;have Se:=Hh FP;have Jv:=Hh (es ctx has HN.out.2.2.2.1);have MT:=Hh (Vn (id:=id) (ctx:=ctx) (has:=has) (m:=m) En.out);have Hz:=Hh (g6 (id:=id) (ctx:=ctx) (has:=has) (m:=m) En.out);have rb:=Hh (sI id ctx has kind.data.toList m);have QP:Hid (bW id ctx has kind.data.toList m=[wH id,tx ctx has,zh 10,i5 kind.data.toList,zh m]):=rfl;obtain⟨y,hy⟩:∃ y,tx ctx has=y:=⟨_,rfl⟩
 rw[hy]at hQ Se Jv QP;clear FP hy;have ik:Hid (kind.data.toList.length≤1000):=by rw[Hid,Array.length_toList];exact HN.out.2.2.2.2.1
 have S0:Hid ((uI id ctx has kind.data.toList m).length≤1099511627776):=by
  have h1:=rb.out;have h2:=HN.out.2.1;have h3:=HN.out.2.2.2.1;have h4:=ik.out;rw[Hid]
  omega
 have Oe:Hid (ModestL [wH id,y,zh 10,i5 kind.data.toList,zh m]):=by
  refine ModestL.of fun z hz=>?_
  simp only[List.mem_cons,List.not_mem_nil,or_false]at hz
  rcases hz with rfl | rfl | rfl | rfl | rfl
  ·exact uC 2 id (by have:=HN.out.2.1;omega)
  ·exact Jv.out
  ·exact rf 10
  ·exact uC 3 _ (by have:=ik.out;omega)
  exact rf m
 replace hG:=hG.drew;replace hQ:=hQ.drew;go_upto_region 4 with fail
 refine zn 12 (fun wx=>wx.cell? ⟨w.heap.size,0,none⟩=some (.int .i64 y.kind)∧wx.cell? ⟨w.heap.size,1,none⟩=some (.int .u64 y.n)∧wx.cell? ⟨w.heap.size,2,none⟩=some (.slice ba y.bytes.length bc)∧wx.cell? ⟨w.heap.size,3,none⟩=some (.slice ia y.items.length ic)) (by kernel_rfl) (⟨hQ.cell 0 rfl,hQ.cell 1 rfl,hQ.cell 2 rfl,hQ.cell 3 rfl⟩) (fun zy=>?_)
 refine TkS 0 rfl zy ?_
 refine TkS 2 rfl zy ?_
 refine TkS 4 rfl zy ?_
 refine TkS 6 rfl zy ?_
 refine To 1 rfl fun K hK=>?_
 go_simp
 refine(vB (c:=c) HN.out.1 (by have:=HN.out.2.1;omega) _ (HS.out.below hG.below) hG.holds).mono ?_
 rintro e w1 ⟨v1,rfl,ba1,bc1,ia1,ic1,H1,rfl,um,tG⟩
 replace hQ:=hQ.below um.below;replace hG:=hG.trans um;have qA:=Hh tG;replace Se:=Hh (Se.out.mono um.le);clear um tG
 refine Ko hK ?_ fun zy=>?_
 ·exact⟨hQ.cell 0 rfl,hQ.cell 1 rfl,hQ.cell 2 rfl,hQ.cell 3 rfl⟩
 clear hK K
 refine To 3 rfl fun K hK=>?_
 go_simp
 refine(xJ 10 (by omega) (by omega) _ hG.holds).mono ?_
 rintro e w3 ⟨v3,rfl,ba3,bc3,ia3,ic3,H3,rfl,xf,VT⟩
 replace hQ:=hQ.below xf.below;replace hG:=hG.trans xf;have Pd:=Hh VT;replace Se:=Hh (Se.out.mono xf.le);replace qA:=Hh (qA.out.mono xf.le);clear xf VT
 refine Ko hK ?_ fun zy=>?_
 ·exact⟨hQ.cell 0 rfl,hQ.cell 1 rfl,hQ.cell 2 rfl,hQ.cell 3 rfl⟩
 clear hK K
 refine To 5 rfl fun K hK=>?_
 go_simp
 refine(gh kind (by have:=HN.out.2.2.2.2.1;omega) _ hG.holds).mono ?_
 rintro e w5 ⟨v5,rfl,ba5,bc5,ia5,ic5,H5,rfl,xC,fR⟩
 replace hQ:=hQ.below xC.below;replace hG:=hG.trans xC;have I2:=Hh fR;replace Se:=Hh (Se.out.mono xC.le);replace qA:=Hh (qA.out.mono xC.le);replace Pd:=Hh (Pd.out.mono xC.le);clear xC fR
 refine Ko hK ?_ fun zy=>?_
 ·exact⟨hQ.cell 0 rfl,hQ.cell 1 rfl,hQ.cell 2 rfl,hQ.cell 3 rfl⟩
 clear hK K
 refine To 7 rfl fun K hK=>?_
 go_simp
 refine(xJ m (by have:=HN.out.2.2.2.2.2;omega) (by have:=HN.out.2.2.2.2.2;omega) _ hG.holds).mono ?_
 rintro e w7 ⟨v7,rfl,ba7,bc7,ia7,ic7,H7,rfl,uw,Pn⟩
 replace hQ:=hQ.below uw.below;replace hG:=hG.trans uw;have Up:=Hh Pn;replace Se:=Hh (Se.out.mono uw.le);replace qA:=Hh (qA.out.mono uw.le);replace Pd:=Hh (Pd.out.mono uw.le);replace I2:=Hh (I2.out.mono uw.le);clear uw Pn
 refine Ko hK ?_ fun zy=>?_
 ·exact⟨hQ.cell 0 rfl,hQ.cell 1 rfl,hQ.cell 2 rfl,hQ.cell 3 rfl⟩
 clear hK K
 refine To 8 rfl fun K hK=>?_
 go_simp
 obtain⟨H8,ra,df,JM⟩:=nI hG ((ItemsC.one qA.out).app ((ItemsC.one Se.out).app ((ItemsC.one Pd.out).app ((ItemsC.one I2.out).app (ItemsC.one Up.out))))) (by simp);replace hQ:=hQ.below (zl _ (.cells (zT (wH id) ba1 bc1 ia1 ic1++(zT y ba bc ia ic++(zT (zh 10) ba3 bc3 ia3 ic3++(zT (i5 kind.data.toList) ba5 bc5 ia5 ic5++zT (zh m) ba7 bc7 ia7 ic7)))).toArray 78))
 refine Ko hK ?_ fun zy=>?_
 ·exact⟨hQ.cell 0 rfl,hQ.cell 1 rfl,hQ.cell 2 rfl,hQ.cell 3 rfl⟩
 clear hK K
 refine To 9 rfl fun K hK=>?_
 go_simp
 refine(gf (l:=[wH id,y,zh 10,i5 kind.data.toList,zh m]) JM Oe.out (by simp) _ ra.holds).mono ?_
 rintro e w9 ⟨v9,rfl,ba9,bc9,ia9,ic9,H9,rfl,tZ,QV⟩
 replace hQ:=hQ.below tZ.below;have iF:=ra.trans tZ;have CH:=Hh QV;clear tZ QV
 refine Ko hK ?_ fun zy=>?_
 ·exact⟨hQ.cell 0 rfl,hQ.cell 1 rfl,hQ.cell 2 rfl,hQ.cell 3 rfl⟩
 clear hK K
 refine To 10 rfl fun K hK=>?_
 go_simp
 refine(vW (.mk 4 0 [] [wH id,y,zh 10,i5 kind.data.toList,zh m]) H9 _ _ ba9 _ bc9 ia9 _ ic9 _ 0 (by rw[← QP.out];exact jl Hz.out) (by rw[← QP.out,MT.out];exact S0.out) CH.out.arg iF.holds).mono ?_
 rintro e w10 ⟨r10,rfl,tY⟩
 replace hQ:=hQ.below tY.2
 refine Ko hK ?_ fun zy=>?_
 ·exact⟨hQ.cell 0 rfl,hQ.cell 1 rfl,hQ.cell 2 rfl,hQ.cell 3 rfl⟩
 clear hK K
 refine TkS 11 rfl zy ?_
 refine Wd ?_
 clear zy;have ho:=tY.own.more (base':=w.heap.size) iF.below.size;have xY:=iF.below.trans (tY.2.mono iF.below.size);rw[← QP.out,MT.out]at ho;go_wp2_with fail
 go_ret
 exact⟨_,rfl,ho,xY⟩
theorem Ye {H:Snap}{x:Ep}{a:EAd}(hx:EpA H x a) {A:Option Addr}{c:Nat}{s:List UInt8}{n:Nat}(hn:n=s.length) (hl:s.length≤1099511) (w:World) (hH:Holds w H) (hS:Src w A (s.map zg)) :
  Calls Tryz.prog 11 #[.agg (epQ x a),.slice A n c] w (ky w H x s):=by
 obtain⟨il,rC⟩:∃ n,n=x.id.length:=⟨_,rfl⟩
 obtain⟨sl,sP⟩:∃ n,n=x.secret.length:=⟨_,rfl⟩
 obtain⟨ml,rS⟩:∃ n,x.members.length=n:=⟨_,rfl⟩
 have HN:=Hh (And.intro hn (And.intro hl (And.intro rC (And.intro sP hx.small))));have iE:=Hh hx.id;have IE:=Hh hx.secret;have HS:=Hh hS;show Calls Tryz.prog 11 #[.agg (epC x.number a.ia x.id.length a.ic a.sa x.secret.length a.sc a.ma x.members.length a.mc),.slice A n c] w (ky w H x s)
 rw[← rC,← sP,rS];have hK:=Blk.new w 33 (epC x.number a.ia il a.ic a.sa sl a.sc a.ma ml a.mc);have hG:=(Grows.refl hH).alloc (.cells (epC x.number a.ia il a.ic a.sa sl a.sc a.ma ml a.mc) 33);have c2:=hK.cell 2 rfl;have hP:=Hh (show(rQ [] x.secret).length=32 from tC _ _);have EX:=Hh (eu (A:=none) (c:=0) (n:=0) (key:=[]) rfl (by simp) (d:=a.sc) HN.out.2.2.2.1 (by have:=HN.out.2.2.2.2;omega) _ (Src.nil _ _) (Src.of_row IE.out.row hG.holds));clear hn hl hx hH hS rC sP rS;go_enter Tryz.func11,Tryz.ntmps11
 go_wp2_with fail
 refine EX.out.mono ?_
 rintro e w1 ⟨r1,rfl,rN⟩
 obtain⟨PA,pc,rfl,_⟩:=rN.own.form;obtain⟨H1,um,zP,_⟩:=Fresh.snapB hG.holds rN;rw[hP.out];replace hK:=hK.below rN.2;replace hG:=hG.trans um;have fI:=Hh zP;replace iE:=Hh (iE.out.mono um.le);clear EX rN um zP c2;have c1:=hK.cell 1 rfl;have II:=Hh (mB (A:=A) (c:=c) (id:=s) HN.out.1 HN.out.2.1 (d:=a.ic) HN.out.2.2.1 HN.out.2.2.2.2.1 true ⟨#[75,101,121]⟩ (by decide) (by kernel_rfl) 16 (by omega) _ hG.holds (HS.out.below hG.below) (Src.of_row iE.out.row hG.holds));go_wp2_with fail
 refine II.out.mono ?_
 rintro e wi0 ⟨ri0,rfl,pV⟩
 have qJ:=sI s x.id true (⟨#[75,101,121]⟩:ByteArray).data.toList 16
 have oR:Hid ((uI s x.id true (⟨#[75,101,121]⟩:ByteArray).data.toList 16).length≤1099510000):=by
  have h1:=HN.out.2.1;have h2:=HN.out.2.2.2.2.1;have h3:((⟨#[75,101,121]⟩:ByteArray).data.toList).length≤10:=by decide
  rw[Hid];have h0:([]:List UInt8).length=0:=rfl
  omega
 obtain⟨F0,hF⟩:∃ F,uI s x.id true (⟨#[75,101,121]⟩:ByteArray).data.toList 16=F:=⟨_,rfl⟩
 have Hv:=Hh hF;rw[hF]at pV oR;obtain⟨fA,fc,rfl,_⟩:=pV.own.form;replace hK:=hK.below pV.2;replace hG:=hG.below_ pV.2;obtain⟨fn0,im⟩:∃ n,F0.length=n:=⟨_,rfl⟩
 rw[im];have XX:=Hh (tp (c:=pc) (np:=32) hP.out.symm (by rw[hP.out];omega) (d:=fc) im.symm oR.out 16 (by omega) wi0 hG.holds (Src.of_row fI.out.row hG.holds) pV.own.src);clear hF pV im c1 II qJ;go_wp2_with fail
 refine XX.out.mono ?_
 rintro e wk0 ⟨kA0,kc0,D0,rfl,pS,cE⟩
 replace hK:=hK.below pS.below;replace fI:=Hh (fI.out.mono pS.le);replace iE:=Hh (iE.out.mono pS.le);have Ur:=Hh cE;replace hG:=hG.trans pS;clear pS cE XX oR;have c1:=hK.cell 1 rfl;have II:=Hh (mB (A:=none) (c:=0) (n:=0) (id:=[]) rfl (by simp) (d:=a.ic) HN.out.2.2.1 HN.out.2.2.2.2.1 true ⟨#[73,86]⟩ (by decide) (by kernel_rfl) 13 (by omega) _ hG.holds (Src.nil _ _) (Src.of_row iE.out.row hG.holds));go_wp2_with fail
 refine II.out.mono ?_
 rintro e wi1 ⟨ri1,rfl,pV⟩
 have qJ:=sI [] x.id true (⟨#[73,86]⟩:ByteArray).data.toList 13
 have oR:Hid ((uI [] x.id true (⟨#[73,86]⟩:ByteArray).data.toList 13).length≤1099510000):=by
  have h1:=HN.out.2.1;have h2:=HN.out.2.2.2.2.1;have h3:((⟨#[73,86]⟩:ByteArray).data.toList).length≤10:=by decide
  rw[Hid];have h0:([]:List UInt8).length=0:=rfl
  omega
 obtain⟨F1,hF⟩:∃ F,uI [] x.id true (⟨#[73,86]⟩:ByteArray).data.toList 13=F:=⟨_,rfl⟩
 have MU:=Hh hF;rw[hF]at pV oR;obtain⟨fA,fc,rfl,_⟩:=pV.own.form;replace hK:=hK.below pV.2;replace hG:=hG.below_ pV.2;obtain⟨fn1,im⟩:∃ n,F1.length=n:=⟨_,rfl⟩
 rw[im];have XX:=Hh (tp (c:=pc) (np:=32) hP.out.symm (by rw[hP.out];omega) (d:=fc) im.symm oR.out 13 (by omega) wi1 hG.holds (Src.of_row fI.out.row hG.holds) pV.own.src);clear hF pV im c1 II qJ;go_wp2_with fail
 refine XX.out.mono ?_
 rintro e wk1 ⟨kA1,kc1,D6,rfl,pS,cE⟩
 replace hK:=hK.below pS.below;replace fI:=Hh (fI.out.mono pS.le);replace iE:=Hh (iE.out.mono pS.le);replace Ur:=Hh (Ur.out.mono pS.le);have Pf:=Hh cE;replace hG:=hG.trans pS;clear pS cE XX oR;have c1:=hK.cell 1 rfl;have II:=Hh (mB (A:=none) (c:=0) (n:=0) (id:=[]) rfl (by simp) (d:=a.ic) HN.out.2.2.1 HN.out.2.2.2.2.1 true ⟨#[83,69,75,101,121]⟩ (by decide) (by kernel_rfl) 16 (by omega) _ hG.holds (Src.nil _ _) (Src.of_row iE.out.row hG.holds));go_wp2_with fail
 refine II.out.mono ?_
 rintro e wi2 ⟨ri2,rfl,pV⟩
 have qJ:=sI [] x.id true (⟨#[83,69,75,101,121]⟩:ByteArray).data.toList 16
 have oR:Hid ((uI [] x.id true (⟨#[83,69,75,101,121]⟩:ByteArray).data.toList 16).length≤1099510000):=by
  have h1:=HN.out.2.1;have h2:=HN.out.2.2.2.2.1;have h3:((⟨#[83,69,75,101,121]⟩:ByteArray).data.toList).length≤10:=by decide
  rw[Hid];have h0:([]:List UInt8).length=0:=rfl
  omega
 obtain⟨F2,hF⟩:∃ F,uI [] x.id true (⟨#[83,69,75,101,121]⟩:ByteArray).data.toList 16=F:=⟨_,rfl⟩
 have Hw:=Hh hF;rw[hF]at pV oR;obtain⟨fA,fc,rfl,_⟩:=pV.own.form;replace hK:=hK.below pV.2;replace hG:=hG.below_ pV.2;obtain⟨fn2,im⟩:∃ n,F2.length=n:=⟨_,rfl⟩
 rw[im];have XX:=Hh (tp (c:=pc) (np:=32) hP.out.symm (by rw[hP.out];omega) (d:=fc) im.symm oR.out 16 (by omega) wi2 hG.holds (Src.of_row fI.out.row hG.holds) pV.own.src);clear hF pV im c1 II qJ;go_wp2_with fail
 refine XX.out.mono ?_
 rintro e wk2 ⟨kA2,kc2,D7,rfl,pS,cE⟩
 replace hK:=hK.below pS.below;replace fI:=Hh (fI.out.mono pS.le);replace iE:=Hh (iE.out.mono pS.le);replace Ur:=Hh (Ur.out.mono pS.le);replace Pf:=Hh (Pf.out.mono pS.le);have jU:=Hh cE;replace hG:=hG.trans pS;clear pS cE XX oR;go_wp2_with fail
 go_ret3
 exact⟨kA0,kc0,kA1,kc1,kA2,kc2,_,rfl,hG,by have h:=Ur.out;rw[← Hv.out]at h;exact h,by have h:=Pf.out;rw[← MU.out]at h;exact h,by have h:=jU.out;rw[← Hw.out]at h;exact h⟩
def qX:Itm:=.mk 4 0 [] [zh 10,zh (-8)]
theorem YF:Good qX 1:=by
 rw[qX,Good]
 refine⟨?_,by rw[GoodL,GoodL,GoodL];exact⟨ww 10 2,ww (-8) 2,trivial⟩,fun h5=>absurd h5 (by decide)⟩
 rw[yF,if_neg (by simp[xR,Itm.kind])]
 simp[vV,Itm.kind,Itm.bytes,Itm.n]
theorem TG:zX qX=o8:=by
 rw[qX,gS (by rw[GoodL,GoodL,GoodL];exact⟨ww 10 1,ww (-8) 1,trivial⟩),o8]
 simp only[ym,wW,List.flatten_cons,List.flatten_nil,List.length_cons,List.length_nil]
theorem aA:Modest qX:=by
 rw[qX,Modest]
 exact⟨by simp,by simp,ModestL.of fun z hz=>by
  simp only[List.mem_cons,List.not_mem_nil,or_false]at hz
  rcases hz with rfl | rfl <;> exact rf _⟩
def bZ (kid id cred:List UInt8) (piv:Int):List Itm:=[zh 1,qX,wH kid,wH (xK piv),wH [],wH id,wH cred]
theorem g7 (kid id cred:List UInt8) (piv:Int):GoodL (bZ kid id cred piv) 1:=by
 have g:∀ b:List UInt8,Good (wH b) 1:=fun b=>rj 2 (.inl rfl) b 1 (fun h=>by omega)
 rw[bZ,GoodL,GoodL,GoodL,GoodL,GoodL,GoodL,GoodL,GoodL]
 exact⟨ww 1 1,YF,g _,g _,g _,g _,g _,trivial⟩
theorem Vo (kid id cred:List UInt8) (piv:Int):zX (.mk 4 0 [] (bZ kid id cred piv))=sS kid id cred piv:=by
 rw[gS (g7 _ _ _ _),sS]
 simp only[bZ,ym,gT,wW,TG,List.flatten_cons,List.flatten_nil,List.length_cons,List.length_nil]
theorem aL {H:Snap}{x:Ep}{a:EAd}(hx:EpA H x a) {b:Bd}{ba:BAd}(t6:BdA H b ba) {A:Option Addr}{c:Nat}{s:List UInt8}{n:Nat}(hn:n=s.length) (hl:s.length≤1099511) (w:World) (hH:Holds w H) (hS:Src w A (s.map zg)) :
  Calls Tryz.prog 16 #[.agg (epQ x a),.agg (bdQ b ba),.slice A n c] w (dJ w H (sL x b s)):=by
 obtain⟨kl,sX⟩:∃ n,n=b.kid.length:=⟨_,rfl⟩
 obtain⟨xl,ek⟩:∃ n,b.ctx.length=n:=⟨_,rfl⟩
 have HN:=Hh (And.intro hn (And.intro hl (And.intro hx.small (And.intro sX t6.small))));have HX:=Hh hx;have HB:=Hh t6;have HS:=Hh hS;show Calls Tryz.prog 16 #[.agg (epQ x a),.agg (bdC ba.xa b.ctx.length ba.xc ba.ka b.kid.length ba.kc b.piv),.slice A n c] w (dJ w H (sL x b s))
 rw[← sX,ek];have hE:=(Blk.new w 33 (epQ x a)).alloc (.cells (bdC ba.xa xl ba.xc ba.ka kl ba.kc b.piv) 25);have hB:=Blk.new (w.alloc (.cells (epQ x a) 33)) 25 (bdC ba.xa xl ba.xc ba.ka kl ba.kc b.piv);rw[zW]at hB;have hG:=((Grows.refl hH).alloc (.cells (epQ x a) 33)).alloc (.cells (bdC ba.xa xl ba.xc ba.ka kl ba.kc b.piv) 25);have e0:=hE.cell 0 rfl;have e1:=hE.cell 1 rfl;have e2:=hE.cell 2 rfl;have e3:=hE.cell 3 rfl;have FD:=Hh (Yd hx (c:=c) hn hl _ hG.holds (hS.below hG.below));clear hn hl hx t6 hH hS sX ek;go_enter Tryz.func16,Tryz.ntmps16
 go_wp2_with fail
 refine FD.out.mono ?_
 rintro e w2 ⟨ma,H2,rfl,yY,iK⟩
 have rY:Hid (sL x b s=match uZ x.members s with | none=>([],38) | some m=>if 0≤b.piv∧b.piv≤1099511627775 then(if 4096<(sS b.kid x.id m.cred b.piv).length then([],8) else(sS b.kid x.id m.cred b.piv,0)) else([],8)):=rfl
 cases ho:uZ x.members s with
 | none =>
  rw[ho]at rY;replace rY:Hid (sL x b s=([],38)):=rY;have xf:=(hG.trans yY).alloc (.cells (xQ mJ ma) 57);clear FD hG yY iK hE hB e0 e1 e2 e3 ho;go_wp2_with fail
  go_ret2
  exact⟨none,0,H2,by rw[rY.out];rfl,xf,by rw[rY.out];exact IsBytes.nil _⟩
 | some m =>
 rw[ho]at rY iK;replace rY:Hid (sL x b s=if 0≤b.piv∧b.piv≤1099511627775 then(if 4096<(sS b.kid x.id m.cred b.piv).length then([],8) else(sS b.kid x.id m.cred b.piv,0)) else([],8)):=rY;replace iK:MemA H2 m ma:=iK;have HM:=Hh iK;have SC:=(hE.below yY.below).alloc (.cells (xQ m ma) 57);have pi:=(hB.below yY.below).alloc (.cells (xQ m ma) 57);have Uw:=Blk.new w2 57 (xQ m ma);have xf:=(hG.trans yY).alloc (.cells (xQ m ma) 57);replace HX:=Hh (HX.out.mono xf.le);replace HB:=Hh (HB.out.mono xf.le);have b2:=pi.cell 2 rfl;obtain⟨M,Po⟩:∃ M,w2.heap.size=M:=⟨_,rfl⟩
 obtain⟨w3,cO⟩:∃ w3,w2.alloc (.cells (xQ m ma) 57)=w3:=⟨_,rfl⟩
 rw[Po]at Uw;rw[cO]at SC pi Uw xf;have S9:=Hh (And.intro Po cO);clear FD hG yY iK hE hB e0 e1 e2 e3 ho Po cO
 by_cases hp:0≤b.piv∧b.piv≤1099511627775
 ·rw[if_pos hp]at rY;have p1:¬ b.piv<0:=by omega
  have p2:¬ (1099511627775:Int)<b.piv:=by omega
  clear hp;have MT:=Hh (Vo b.kid x.id m.cred b.piv);have Hz:=Hh (g7 b.kid x.id m.cred b.piv);have QP:Hid (bZ b.kid x.id m.cred b.piv=[zh 1,qX,wH b.kid,wH (xK b.piv),wH [],wH x.id,wH m.cred]):=rfl
  have Oe:Hid (ModestL [zh 1,qX,wH b.kid,wH (xK b.piv),wH [],wH x.id,wH m.cred]):=by
   refine ModestL.of fun z hz=>?_
   simp only[List.mem_cons,List.not_mem_nil,or_false]at hz
   rcases hz with rfl | rfl | rfl | rfl | rfl | rfl | rfl
   ·exact rf 1
   ·exact aA
   ·exact uC 2 _ (by have:=HN.out.2.2.2.2.2;omega)
   ·exact uC 2 _ (by have:=qO b.piv;omega)
   ·exact uC 2 _ (by simp)
   ·exact uC 2 _ (by have:=HN.out.2.2.1;omega)
   exact uC 2 _ (by have:=HM.out.small.2.1;omega)
  have GL:Hid (ModestL [zh 10,zh (-8)]):=by
   refine ModestL.of fun z hz=>?_
   simp only[List.mem_cons,List.not_mem_nil,or_false]at hz
   rcases hz with rfl | rfl <;> exact rf _
  have CW:Hid ((sS b.kid x.id m.cred b.piv).length≤1099511627000):=by
   have h1:=rk 1;have h2:=vU b.kid;have h3:=vU (xK b.piv);have h4:=qO b.piv;have h5:=vU x.id;have h6:=vU m.cred;have h7:=HN.out.2.2.1;have h8:=HN.out.2.2.2.2.2;have h9:=HM.out.small.2.1;have K7:o8.length=3:=by decide
   have D9:(vX []).length≤9:=vU [];have K8:=(wO 4 7).2;rw[Hid,sS]
   simp only[List.flatten_cons,List.flatten_nil,List.length_append,List.length_nil]
   omega
  have uO:=SC.drew;have wI:=pi.drew;have uQ:=Uw.drew;have hG:=xf.drew;clear SC pi Uw xf;go_upto_region 6 with fail
  try rw[S9.out.1]
  try rw[S9.out.2]
  clear b2 p1 p2
  refine zn 23 (fun wx=>wx.cell? ⟨w.heap.size,1,none⟩=some (.slice a.ia x.id.length a.ic)∧wx.cell? ⟨w.heap.size+1,1,none⟩=some (.slice ba.ka kl ba.kc)∧wx.cell? ⟨w.heap.size+1,2,none⟩=some (.int .i64 b.piv)∧wx.cell? ⟨M,3,none⟩=some (.slice ma.ca m.cred.length ma.cc)) (by kernel_rfl) (⟨uO.cell 1 rfl,wI.cell 1 rfl,wI.cell 2 rfl,uQ.cell 3 rfl⟩) (fun zy=>?_)
  refine TkS 5 rfl zy ?_
  refine TkS 6 rfl zy ?_
  refine TkS 8 rfl zy ?_
  refine TkS 9 rfl zy ?_
  refine TkS 13 rfl zy ?_
  refine TkS 14 rfl zy ?_
  refine TkS 16 rfl zy ?_
  refine TkS 17 rfl zy ?_
  refine To 0 rfl fun K hK=>?_
  go_simp
  refine(xJ 1 (by omega) (by omega) _ hG.holds).mono ?_
  rintro e wk0 ⟨v0,rfl,ba0,bc0,ia0,ic0,H0,rfl,ed,FN⟩
  replace uO:=uO.below ed.below;replace wI:=wI.below ed.below;replace uQ:=uQ.below ed.below;replace hG:=hG.trans ed;have kI:=Hh FN;replace HX:=Hh (HX.out.mono ed.le);replace HB:=Hh (HB.out.mono ed.le);replace HM:=Hh (HM.out.mono ed.le);clear ed FN
  refine Ko hK ?_ fun zy=>?_
  ·exact⟨uO.cell 1 rfl,wI.cell 1 rfl,wI.cell 2 rfl,uQ.cell 3 rfl⟩
  clear hK K
  refine To 1 rfl fun K hK=>?_
  go_simp
  refine(xJ 10 (by omega) (by omega) _ hG.holds).mono ?_
  rintro e wk1 ⟨v1,rfl,ba1,bc1,ia1,ic1,H1,rfl,um,tG⟩
  replace uO:=uO.below um.below;replace wI:=wI.below um.below;replace uQ:=uQ.below um.below;replace hG:=hG.trans um;have qA:=Hh tG;replace HX:=Hh (HX.out.mono um.le);replace HB:=Hh (HB.out.mono um.le);replace HM:=Hh (HM.out.mono um.le);replace kI:=Hh (kI.out.mono um.le);clear um tG
  refine Ko hK ?_ fun zy=>?_
  ·exact⟨uO.cell 1 rfl,wI.cell 1 rfl,wI.cell 2 rfl,uQ.cell 3 rfl⟩
  clear hK K
  refine To 2 rfl fun K hK=>?_
  go_simp
  refine(xJ (-8) (by omega) (by omega) _ hG.holds).mono ?_
  rintro e wk2 ⟨v2,rfl,ba2,bc2,ia2,ic2,H2,rfl,yY,lR⟩
  replace uO:=uO.below yY.below;replace wI:=wI.below yY.below;replace uQ:=uQ.below yY.below;replace hG:=hG.trans yY;have mW:=Hh lR;replace HX:=Hh (HX.out.mono yY.le);replace HB:=Hh (HB.out.mono yY.le);replace HM:=Hh (HM.out.mono yY.le);replace kI:=Hh (kI.out.mono yY.le);replace qA:=Hh (qA.out.mono yY.le);clear yY lR
  refine Ko hK ?_ fun zy=>?_
  ·exact⟨uO.cell 1 rfl,wI.cell 1 rfl,wI.cell 2 rfl,uQ.cell 3 rfl⟩
  clear hK K
  refine To 3 rfl fun K hK=>?_
  go_simp
  obtain⟨H3,xf,SO,NP⟩:=nI hG ((ItemsC.one qA.out).app (ItemsC.one mW.out)) (by simp);replace uO:=uO.below (zl _ (.cells (zT (zh 10) ba1 bc1 ia1 ic1++zT (zh (-8)) ba2 bc2 ia2 ic2).toArray 78));replace wI:=wI.below (zl _ (.cells (zT (zh 10) ba1 bc1 ia1 ic1++zT (zh (-8)) ba2 bc2 ia2 ic2).toArray 78));replace uQ:=uQ.below (zl _ (.cells (zT (zh 10) ba1 bc1 ia1 ic1++zT (zh (-8)) ba2 bc2 ia2 ic2).toArray 78));replace HX:=Hh (HX.out.mono SO);replace HB:=Hh (HB.out.mono SO);replace HM:=Hh (HM.out.mono SO);replace kI:=Hh (kI.out.mono SO);replace qA:=Hh (qA.out.mono SO);replace mW:=Hh (mW.out.mono SO);replace hG:=xf;clear xf SO
  refine Ko hK ?_ fun zy=>?_
  ·exact⟨uO.cell 1 rfl,wI.cell 1 rfl,wI.cell 2 rfl,uQ.cell 3 rfl⟩
  clear hK K
  refine To 4 rfl fun K hK=>?_
  go_simp
  refine(gf (l:=[zh 10,zh (-8)]) NP GL.out (by simp) _ hG.holds).mono ?_
  rintro e wk4 ⟨v4,rfl,ba4,bc4,ia4,ic4,H4,rfl,uv,FO⟩
  replace uO:=uO.below uv.below;replace wI:=wI.below uv.below;replace uQ:=uQ.below uv.below;replace hG:=hG.trans uv;have Uo:=Hh FO;replace HX:=Hh (HX.out.mono uv.le);replace HB:=Hh (HB.out.mono uv.le);replace HM:=Hh (HM.out.mono uv.le);replace kI:=Hh (kI.out.mono uv.le);replace qA:=Hh (qA.out.mono uv.le);replace mW:=Hh (mW.out.mono uv.le);clear uv FO
  refine Ko hK ?_ fun zy=>?_
  ·exact⟨uO.cell 1 rfl,wI.cell 1 rfl,wI.cell 2 rfl,uQ.cell 3 rfl⟩
  clear hK K
  refine To 7 rfl fun K hK=>?_
  go_simp
  refine(vB (c:=ba.kc) HN.out.2.2.2.1 (by have:=HN.out.2.2.2.2.2;omega) _ (Src.of_row HB.out.kid.row hG.holds) hG.holds).mono ?_
  rintro e wk7 ⟨v7,rfl,ba7,bc7,ia7,ic7,H7,rfl,uw,Pn⟩
  replace uO:=uO.below uw.below;replace wI:=wI.below uw.below;replace uQ:=uQ.below uw.below;replace hG:=hG.trans uw;have Up:=Hh Pn;replace HX:=Hh (HX.out.mono uw.le);replace HB:=Hh (HB.out.mono uw.le);replace HM:=Hh (HM.out.mono uw.le);replace kI:=Hh (kI.out.mono uw.le);replace qA:=Hh (qA.out.mono uw.le);replace mW:=Hh (mW.out.mono uw.le);replace Uo:=Hh (Uo.out.mono uw.le);clear uw Pn
  refine Ko hK ?_ fun zy=>?_
  ·exact⟨uO.cell 1 rfl,wI.cell 1 rfl,wI.cell 2 rfl,uQ.cell 3 rfl⟩
  clear hK K
  refine To 10 rfl fun K hK=>?_
  go_simp
  refine(aI b.piv _).mono ?_
  rintro e wk10 ⟨rk10,rfl,tY⟩
  obtain⟨RA10,rc10,rfl,Rf⟩:=tY.own.form;clear Rf;obtain⟨rn10,UL⟩:∃ q,(xK b.piv).length=q:=⟨_,rfl⟩
  have Ku:=Hh UL;rw[UL];replace uO:=uO.below tY.2;replace wI:=wI.below tY.2;replace uQ:=uQ.below tY.2;replace hG:=hG.below_ tY.2;have GU:=Hh tY.own.src;clear tY UL
  refine Ko hK ?_ fun zy=>?_
  ·exact⟨uO.cell 1 rfl,wI.cell 1 rfl,wI.cell 2 rfl,uQ.cell 3 rfl⟩
  clear hK K
  refine To 11 rfl fun K hK=>?_
  go_simp
  refine(vB (c:=rc10) Ku.out.symm (by have:=qO b.piv;omega) _ GU.out hG.holds).mono ?_
  rintro e wk11 ⟨v11,rfl,ba11,bc11,ia11,ic11,Jf,rfl,uT,LW⟩
  replace uO:=uO.below uT.below;replace wI:=wI.below uT.below;replace uQ:=uQ.below uT.below;replace hG:=hG.trans uT;have Yz:=Hh LW;replace HX:=Hh (HX.out.mono uT.le);replace HB:=Hh (HB.out.mono uT.le);replace HM:=Hh (HM.out.mono uT.le);replace kI:=Hh (kI.out.mono uT.le);replace qA:=Hh (qA.out.mono uT.le);replace mW:=Hh (mW.out.mono uT.le);replace Uo:=Hh (Uo.out.mono uT.le);replace Up:=Hh (Up.out.mono uT.le);clear uT LW
  refine Ko hK ?_ fun zy=>?_
  ·exact⟨uO.cell 1 rfl,wI.cell 1 rfl,wI.cell 2 rfl,uQ.cell 3 rfl⟩
  clear hK K
  refine To 12 rfl fun K hK=>?_
  go_simp
  refine(vB (A:=none) (n:=0) (c:=0) (l:=[]) rfl (by simp) _ (Src.nil _ _) hG.holds).mono ?_
  rintro e wk12 ⟨v12,rfl,ba12,bc12,ia12,ic12,QN,rfl,zR,LX⟩
  replace uO:=uO.below zR.below;replace wI:=wI.below zR.below;replace uQ:=uQ.below zR.below;replace hG:=hG.trans zR;have UP:=Hh LX;replace HX:=Hh (HX.out.mono zR.le);replace HB:=Hh (HB.out.mono zR.le);replace HM:=Hh (HM.out.mono zR.le);replace kI:=Hh (kI.out.mono zR.le);replace qA:=Hh (qA.out.mono zR.le);replace mW:=Hh (mW.out.mono zR.le);replace Uo:=Hh (Uo.out.mono zR.le);replace Up:=Hh (Up.out.mono zR.le);replace Yz:=Hh (Yz.out.mono zR.le);clear zR LX
  refine Ko hK ?_ fun zy=>?_
  ·exact⟨uO.cell 1 rfl,wI.cell 1 rfl,wI.cell 2 rfl,uQ.cell 3 rfl⟩
  clear hK K
  refine To 15 rfl fun K hK=>?_
  go_simp
  refine(vB (c:=a.ic) rfl (by have:=HX.out.small;omega) _ (Src.of_row HX.out.id.row hG.holds) hG.holds).mono ?_
  rintro e wk15 ⟨v15,rfl,ba15,bc15,ia15,ic15,BP,rfl,mL,LY⟩
  replace uO:=uO.below mL.below;replace wI:=wI.below mL.below;replace uQ:=uQ.below mL.below;replace hG:=hG.trans mL;have Oa:=Hh LY;replace HX:=Hh (HX.out.mono mL.le);replace HB:=Hh (HB.out.mono mL.le);replace HM:=Hh (HM.out.mono mL.le);replace kI:=Hh (kI.out.mono mL.le);replace qA:=Hh (qA.out.mono mL.le);replace mW:=Hh (mW.out.mono mL.le);replace Uo:=Hh (Uo.out.mono mL.le);replace Up:=Hh (Up.out.mono mL.le);replace Yz:=Hh (Yz.out.mono mL.le);replace UP:=Hh (UP.out.mono mL.le);clear mL LY
  refine Ko hK ?_ fun zy=>?_
  ·exact⟨uO.cell 1 rfl,wI.cell 1 rfl,wI.cell 2 rfl,uQ.cell 3 rfl⟩
  clear hK K
  refine To 18 rfl fun K hK=>?_
  go_simp
  refine(vB (c:=ma.cc) rfl (by have:=HM.out.small;omega) _ (Src.of_row HM.out.cred.row hG.holds) hG.holds).mono ?_
  rintro e wk18 ⟨v18,rfl,ba18,bc18,ia18,ic18,EF,rfl,sU,LZ⟩
  replace uO:=uO.below sU.below;replace wI:=wI.below sU.below;replace uQ:=uQ.below sU.below;replace hG:=hG.trans sU;have GI:=Hh LZ;replace HX:=Hh (HX.out.mono sU.le);replace HB:=Hh (HB.out.mono sU.le);replace HM:=Hh (HM.out.mono sU.le);replace kI:=Hh (kI.out.mono sU.le);replace qA:=Hh (qA.out.mono sU.le);replace mW:=Hh (mW.out.mono sU.le);replace Uo:=Hh (Uo.out.mono sU.le);replace Up:=Hh (Up.out.mono sU.le);replace Yz:=Hh (Yz.out.mono sU.le);replace UP:=Hh (UP.out.mono sU.le);replace Oa:=Hh (Oa.out.mono sU.le);clear sU LZ
  refine Ko hK ?_ fun zy=>?_
  ·exact⟨uO.cell 1 rfl,wI.cell 1 rfl,wI.cell 2 rfl,uQ.cell 3 rfl⟩
  clear hK K
  refine To 19 rfl fun K hK=>?_
  go_simp
  obtain⟨BR,GZ,Bx,Hf⟩:=nI hG ((ItemsC.one kI.out).app ((ItemsC.one (x:=qX) Uo.out).app ((ItemsC.one Up.out).app ((ItemsC.one Yz.out).app ((ItemsC.one UP.out).app ((ItemsC.one Oa.out).app (ItemsC.one GI.out))))))) (by simp);replace uO:=uO.below (zl _ (.cells (zT (zh 1) ba0 bc0 ia0 ic0++(zT qX ba4 bc4 ia4 ic4++(zT (wH b.kid) ba7 bc7 ia7 ic7++(zT (wH (xK b.piv)) ba11 bc11 ia11 ic11++(zT (wH []) ba12 bc12 ia12 ic12++(zT (wH x.id) ba15 bc15 ia15 ic15++zT (wH m.cred) ba18 bc18 ia18 ic18)))))).toArray 78));replace wI:=wI.below (zl _ (.cells (zT (zh 1) ba0 bc0 ia0 ic0++(zT qX ba4 bc4 ia4 ic4++(zT (wH b.kid) ba7 bc7 ia7 ic7++(zT (wH (xK b.piv)) ba11 bc11 ia11 ic11++(zT (wH []) ba12 bc12 ia12 ic12++(zT (wH x.id) ba15 bc15 ia15 ic15++zT (wH m.cred) ba18 bc18 ia18 ic18)))))).toArray 78))
  replace uQ:=uQ.below (zl _ (.cells (zT (zh 1) ba0 bc0 ia0 ic0++(zT qX ba4 bc4 ia4 ic4++(zT (wH b.kid) ba7 bc7 ia7 ic7++(zT (wH (xK b.piv)) ba11 bc11 ia11 ic11++(zT (wH []) ba12 bc12 ia12 ic12++(zT (wH x.id) ba15 bc15 ia15 ic15++zT (wH m.cred) ba18 bc18 ia18 ic18)))))).toArray 78));replace hG:=GZ
  refine Ko hK ?_ fun zy=>?_
  ·exact⟨uO.cell 1 rfl,wI.cell 1 rfl,wI.cell 2 rfl,uQ.cell 3 rfl⟩
  clear hK K
  refine To 20 rfl fun K hK=>?_
  go_simp
  refine(gf (l:=[zh 1,qX,wH b.kid,wH (xK b.piv),wH [],wH x.id,wH m.cred]) Hf Oe.out (by simp) _ hG.holds).mono ?_
  rintro e w20 ⟨v20,rfl,ba20,bc20,ia20,ic20,Jg,rfl,UT,La⟩
  replace uO:=uO.below UT.below;replace wI:=wI.below UT.below;replace uQ:=uQ.below UT.below;replace hG:=hG.trans UT;have GJ:=Hh La;clear UT La
  refine Ko hK ?_ fun zy=>?_
  ·exact⟨uO.cell 1 rfl,wI.cell 1 rfl,wI.cell 2 rfl,uQ.cell 3 rfl⟩
  clear hK K
  refine To 21 rfl fun K hK=>?_
  go_simp
  refine(vW (.mk 4 0 [] [zh 1,qX,wH b.kid,wH (xK b.piv),wH [],wH x.id,wH m.cred]) Jg _ _ ba20 _ bc20 ia20 _ ic20 _ 0 (by rw[← QP.out];exact jl Hz.out) (by rw[← QP.out,MT.out];have:=CW.out;omega) GJ.out.arg hG.holds).mono ?_
  rintro e w21 ⟨r21,rfl,ZJ⟩
  rw[← QP.out,MT.out]at ZJ;replace uO:=uO.below ZJ.2;replace wI:=wI.below ZJ.2;replace uQ:=uQ.below ZJ.2;obtain⟨FA,fc,rfl,Gt⟩:=ZJ.own.form;clear Gt
  refine Ko hK ?_ fun zy=>?_
  ·exact⟨uO.cell 1 rfl,wI.cell 1 rfl,wI.cell 2 rfl,uQ.cell 3 rfl⟩
  clear hK K
  refine TkS 22 rfl zy ?_
  refine Wd ?_
  clear zy;obtain⟨HF,Mu,N9,Ss⟩:=Fresh.snapB hG.holds ZJ;clear Ss;have Mv:=hG.trans Mu;obtain⟨fl,vj⟩:∃ q,(sS b.kid x.id m.cred b.piv).length=q:=⟨_,rfl⟩
  rw[vj]at rY⊢;have oO:=Hh vj;have Ho:=Hh N9;clear vj N9 ZJ hG Mu uO wI uQ
  by_cases h4:4096<fl
  ·rw[if_pos h4]at rY;have Mp:(4096:Int)<(fl:Int):=by omega
   go_wp2_with fail
   go_ret2
   exact⟨none,0,HF,by rw[rY.out];rfl,Mv,by rw[rY.out];exact IsBytes.nil _⟩
  rw[if_neg h4]at rY;have Mp:¬ (4096:Int)<(fl:Int):=by omega
  go_wp2_with fail
  go_ret2
  exact⟨FA,fc,HF,by rw[rY.out,← oO.out];rfl,Mv,by rw[rY.out];exact Ho.out⟩
 rw[if_neg hp]at rY;clear SC pi Uw
 by_cases h0:b.piv<0
 ·clear hp;go_wp2_with fail
  go_ret2
  exact⟨none,0,H2,by rw[rY.out];rfl,by rw[← S9.out.2]at xf;exact xf,by rw[rY.out];exact IsBytes.nil _⟩
 have h1:(1099511627775:Int)<b.piv:=by omega
 clear hp;go_wp2_with fail
 go_ret2
 exact⟨none,0,H2,by rw[rY.out];rfl,by rw[← S9.out.2]at xf;exact xf,by rw[rY.out];exact IsBytes.nil _⟩
theorem mA {A:Option Addr}{c:Nat}{l:List UInt8}{n:Nat}(hn:n=l.length) (hl:l.length≤1099511627) (w:World) (hS:Src w A (l.map zg)) :
  Calls Tryz.prog 49 #[.slice A n c] w fun e w'=>∃ r,e=.returned r∧Fresh w l r w':=by
 have HN:=Hh (And.intro hn hl);clear hn hl;go_enter Tryz.func49,Tryz.ntmps49
 go_wp2_with (at_builtin;refine zf ?_)
 refine zv rfl (.const (.slice none 0 0)) (.tmp 3) rfl w.heap.size (.slice none 0 0) [] rfl (OwnB.nil _ _) A n c l rfl HN.out.1 hS (by have:=HN.out.2;simp;omega) (Nat.le_refl _) fun v1 w1 yp hg1 hat1=>?_
 rw[List.nil_append]at yp;have zP:=yT (by simpa [Value.ownBlock] using hg1);clear hg1 hat1 hS;go_wp2_with fail
 go_ret
 exact⟨_,rfl,yp,zP⟩
theorem nJ (n:Nat) (hn:n≤1099511627776) (w:World) :
  Calls Tryz.prog 21 #[.int .i64 (n:Int)] w fun e w'=>∃ r,e=.returned r∧Fresh w [ze n 8,ze n 0] r w':=by
 have hL:=Fresh.lit w [ze n 8,ze n 0] #[.int .u8 ((n:Int)/256%256),.int .u8 ((n:Int)%256)] 2 rfl (by simp) (by
  simp only[List.map_cons,List.map_nil]
  rw[z7 n 8 256 rfl,z7 n 0 1 rfl,Int.ediv_one])
 have q1:(n:Int).tdiv 256=(n:Int)/256:=Int.tdiv_eq_ediv_of_nonneg (by omega);have q2:(n:Int).tmod 256=(n:Int)%256:=Int.tmod_eq_emod_of_nonneg (by omega);have q4:IntKind.i64.wrap ((n:Int)/256)=(n:Int)/256:=IntWalk.i64_in _ (by omega);have q3:(n:Int)%256%256=(n:Int)%256:=by omega
 clear hn;go_enter Tryz.func21,Tryz.ntmps21
 go_wp2_with fail
 go_ret
 exact⟨_,rfl,hL⟩
theorem bK {A:Option Addr}{c:Nat}{l:List UInt8}{m:Nat}(hm:m=l.length) (hl:l.length≤1099511) (n:Nat) (hn:n≤1099511627776) (w:World) (hS:Src w A (l.map zg)) :
  Calls Tryz.prog 19 #[.slice A m c,.int .i64 (n:Int)] w fun e w'=>∃ r,e=.returned r∧Fresh w (l++[ze n 8,ze n 0]) r w':=by
 have HN:=Hh (And.intro hm (And.intro hl hn));have CP:=Hh (mA (c:=c) hm (by omega) w hS);clear hm hl hn hS;go_enter Tryz.func19,Tryz.ntmps19
 go_wp2_with fail
 refine CP.out.mono ?_
 rintro e w1 ⟨r1,rfl,rN⟩
 obtain⟨A1,c1,rfl,_⟩:=rN.own.form;rw[← HN.out.1];have yp:=rN.own;have zP:=rN.2;clear CP rN;go_wp2_with fail
 refine(nJ n HN.out.2.2 _).mono ?_
 rintro e w2 ⟨r2,rfl,oT⟩
 obtain⟨A2,c2,rfl,_⟩:=oT.own.form;rw[show([ze n 8,ze n 0]:List UInt8).length=2 from rfl];have tl:=yp.below oT.2;have VI:=oT.own.src;have yz:=zP.trans (oT.2.mono zP.size);rw[← HN.out.1]at tl;clear yp zP oT;go_wp2_with (at_builtin;refine zf ?_)
 refine zv rfl (.tmp 6) (.tmp 8) rfl w.heap.size _ _ rfl tl A2 2 c2 [ze n 8,ze n 0] rfl rfl VI (by have:=HN.out.2.1;simp;omega) yz.size fun v' w5 zB yg hat5=>?_
 have xz:=zm yz yg (fun q hq=>(tl.lt q hq).1);clear tl VI yz yg hat5;go_wp2_with fail
 go_ret
 exact⟨_,rfl,zB,xz⟩
end Go.Proofs.YtjpcnhncoidliaaGreatDoor
