/- squeezed. Proved: coreseclaw21.CredCodes returns true for every input, and behind the call every argument reads as it read before. Conditions: none beyond the given card itself (the two listed tables of unicode/utf8 read as the text of the program lays them); no bound on sizes. -/
import Derived.Test.YtgcjjhibdbafmabGreatDoorCards
import Derived.Test.YtgcjjhibdbafmabGreatDoorTie
import Derived.Test.YtgcjjhibdbafmabGreatDoorK24
import Derived.Lib.LaidIn
import Derived.Lib.LaidU8T
import Derived.Deep.DeepHandedRow
import Derived.Deep.DeepWitnessRowRef
import Derived.ProofKit
import Derived.SizedLaws
set_option linter.unusedVariables false
set_option linter.unusedSimpArgs false
set_option maxRecDepth 100000
set_option maxHeartbeats 4000000
namespace Go.Proofs.YtgcjjhibdbafmabGreatDoor.credcodes
open Go.ChangeMaps (open_string)
open Go.ChangeShapes Go.WideShapes Go.ChangeAt Go.RowKit Go.Lib Go.Shelf
def utfRen24:Go.Shelf.Ren:=⟨fun n=>n,
 fun | 5=>5 | 119=>102 | 138=>104 | 139=>105 | n=>n,
 fun | 3=>0 | 4=>1 | n=>n⟩
theorem utfTypes:U8Types Tryz.prog utfRen24:=⟨Tryz.underlying5,Tryz.underlying102,Tryz.underlying104,Tryz.underlying105⟩
theorem laid_out:laidOutB Tryz.prog=true:=by kernel_rfl
theorem own:ownKnob Tryz.prog.godebug=none:=by kernel_rfl
noncomputable def laidWorld (os:Os):World :=
 let w0:=World.holding Tryz.prog os ⟨#[],#[],[]⟩
 let put (h:Array Obj) (g:Nat) (cs:Array Value):Array Obj:=h.modify g fun
  | .cells _ t frozen=>.cells cs t frozen
  | o=>o
 let h1:=put w0.heap 0 (Lib.firstTab.map fun z=>Value.int .u8 z).toArray
 let h2:=put h1 1 ((List.range 16).flatMap fun i=>[Value.int .u8 (Lib.accLo i),Value.int .u8 (Lib.accHi i)]).toArray
 { w0 with heap:=h2 }
abbrev args0:Array Value:=#[.agg #[.string ⟨#[]⟩,.string ⟨#[]⟩,.int .i64 0,.int .i64 0,.int .i64 0,.int .i64 0,.int .i64 0,.slice none 0 0,.slice none 0 0,.slice none 0 0,.slice none 0 0],.slice none 0 0,.slice none 0 0,.int .i64 0,.int .i64 0,.int .i64 0,.int .i64 0]
theorem laid_met (os:Os):laidMet Tryz.prog Rows.credCodesRow.laid ((laidWorld os).forCall (fun _ _=>0) ⟨#[],args0,[]⟩).memory :=
 laidMet_of_run' 8 (by kernel_rfl) (by kernel_rfl)
theorem reads (os:Os) {H:Type}(enc:TypeId×Value→H):∃ places,DataW.whole enc Tryz.prog ((laidWorld os).forCall (fun _ _=>0) ⟨#[],args0,[]⟩).memory Tryz.f3.params.toList Rows.credCodesSpec.vars false args0.toList 8=some ([.agg [.lit (.string []),.lit (.string []),.lit (.int .i64 0),.lit (.int .i64 0),.agg [.lit (.int .i64 0),.lit (.int .i64 0),.lit (.int .i64 0),.nil,.nil,.nil,.nil]],.nil,.nil,.lit (.int .i64 0),.lit (.int .i64 0),.lit (.int .i64 0),.lit (.int .i64 0)],[],places) :=
 ⟨[],by kernel_rfl⟩
theorem ints_arg {H:Type}{enc:TypeId×Value→H}{W:World}{a0:Option Addr}{len cap:Nat}{d:DataW H}{p:List MemPlace}(h:DataW.Trod enc Tryz.prog W 0 (fun _=>true) true 27 (.slice a0 len cap) d p) :
  ∃ l:List Int,l.length=len∧IsInts (pe W) a0 cap l:=by
 obtain⟨fuel,hf⟩:=h
 rcases open_ints Tryz.underlying27 Tryz.underlying3 (by kernel_rfl) hf with ⟨px,hx⟩ | ⟨a,len',cap',zs,px,_,hl,hm,hz,hx,xw,Qv⟩
 ·simp[Value.cells]at px
  obtain⟨rfl,rfl,rfl⟩:=px
  exact⟨[],rfl,by simp,by omega,Row.nil _ _,by simp⟩
 simp[Value.cells]at px
 obtain⟨rfl,rfl,rfl⟩:=px;have h1:=Y6 hl hm (by simp at hz;omega) xw Qv
 exact⟨_,h1.2,h1.1⟩
theorem bytes_arg {H:Type}{enc:TypeId×Value→H}{W:World}{a0:Option Addr}{len cap:Nat}{d:DataW H}{p:List MemPlace}(h:DataW.Trod enc Tryz.prog W 0 (fun _=>true) true 22 (.slice a0 len cap) d p) :
  ∃ l:List UInt8,l.length=len∧IsBytes (pe W) a0 cap l:=by
 obtain⟨fuel,hf⟩:=h
 rcases open_ints Tryz.underlying22 Tryz.underlying5 (by kernel_rfl) hf with ⟨px,hx⟩ | ⟨a,len',cap',zs,px,_,hl,hm,hz,hx,xw,Qv⟩
 ·simp[Value.cells]at px
  obtain⟨rfl,rfl,rfl⟩:=px
  exact⟨[],rfl,IsBytes.nil _⟩
 simp[Value.cells]at px
 obtain⟨rfl,rfl,rfl⟩:=px;have h1:=ir hl hm (by simp at hz;omega) xw Qv
 exact⟨_,h1.2,h1.1⟩
theorem i64_wf {n:Int}(h:(Lit.int .i64 n).wf=true) : -9223372036854775808≤n∧n≤9223372036854775807:=by
 simp[Lit.wf]at h
 have h1:IntKind.i64.min = -9223372036854775808:=by decide
 have h2:IntKind.i64.max=9223372036854775807:=by decide
 omega
theorem list7 {α:Type}{l:List α}(h:l.length=7):∃ a b c d e f g,l=[a,b,c,d,e,f,g]:=by
 match l,h with
 | [a,b,c,d,e,f,g],_=>exact⟨a,b,c,d,e,f,g,rfl⟩
theorem key_open {H:Type}{enc:TypeId×Value→H}{W:World}{L:List Value}{fuel:Nat}{x:DataW H×List MemPlace}(Yw:DataW.trod enc Tryz.prog W 0 (fun _=>true) true fuel 24 L=some x) :
  ∃ (q:Ky) (a:KAd),L=(vV q a).toList∧KeyA (pe W) q a:=by
 have ci:Tryz.prog.cellsOf 3=1:=by kernel_rfl
 have cb:Tryz.prog.cellsOf 22=1:=by kernel_rfl
 have c7:Tryz.prog.cellsOf 24=7:=by kernel_rfl
 obtain⟨xs,n1,ru,_,hl,VH,hf⟩:=DataW.trod_struct Tryz.underlying24 Yw;rw[c7]at hl;obtain⟨c0,c1,c2,c3,c4,c5,c6,rfl⟩:=list7 hl;obtain⟨y0,y1,y2,y3,y4,y5,y6,rfl⟩:=list7 (l:=xs) (by rw[VH];rfl);have f0:=hf 0 _ rfl;have f1:=hf 1 _ rfl;have f2:=hf 2 _ rfl;have f3:=hf 3 _ rfl;have f4:=hf 4 _ rfl;have f5:=hf 5 _ rfl;have f6:=hf 6 _ rfl
 simp[ci]at f0
 simp[ci]at f1
 simp[ci]at f2
 simp[ci,cb]at f3
 simp[ci,cb]at f4
 simp[ci,cb]at f5
 simp[ci,cb]at f6
 obtain⟨k0,e0,_,w0⟩:=DataW.trod_int Tryz.underlying3 f0;obtain⟨k1,e1,_,w1⟩:=DataW.trod_int Tryz.underlying3 f1;obtain⟨k2,e2,_,w2⟩:=DataW.trod_int Tryz.underlying3 f2;obtain⟨ia,ic,ib,rfl,hi⟩:=rV f3;obtain⟨xa,xc,xb,rfl,hx⟩:=rV f4;obtain⟨da,dc,db,rfl,hd⟩:=rV f5;obtain⟨ka,kc,kb,rfl,hk⟩:=rV f6
 simp at e0 e1 e2
 subst e0;subst e1;subst e2
 exact⟨⟨k0,k1,k2,ib,xb,db,kb⟩,⟨ia,ic,xa,xc,da,dc,ka,kc⟩,rfl,⟨i64_wf w0,i64_wf w1,i64_wf w2,hi,hx,hd,hk⟩⟩
theorem list11 {α:Type}{l:List α}(h:l.length=11):∃ a b c d e f g i j k m,l=[a,b,c,d,e,f,g,i,j,k,m]:=by
 match l,h with
 | [a,b,c,d,e,f,g,i,j,k,m],_=>exact⟨a,b,c,d,e,f,g,i,j,k,m,rfl⟩
theorem list5 {α:Type}{l:List α}(h:l.length=5):∃ a b c d e,l=[a,b,c,d,e]:=by
 match l,h with
 | [a,b,c,d,e],_=>exact⟨a,b,c,d,e,rfl⟩
theorem claims_arg {H:Type}{enc:TypeId×Value→H}{W:World}{cs:Array Value}{d:DataW H}{p:List MemPlace}(h:DataW.Trod enc Tryz.prog W 0 (fun _=>true) true 26 (.agg cs) d p) :
  ∃ (c:Cl) (a:KAd),cs=clQ c a∧ClA (pe W) c a:=by
 have ci:Tryz.prog.cellsOf 3=1:=by kernel_rfl
 have cs1:Tryz.prog.cellsOf 9=1:=by kernel_rfl
 have ck:Tryz.prog.cellsOf 24=7:=by kernel_rfl
 have c11:Tryz.prog.cellsOf 26=11:=by kernel_rfl
 obtain⟨fuel,Yw⟩:=h;obtain⟨xs,n1,ru,_,hl,VH,hf⟩:=DataW.trod_struct Tryz.underlying26 Yw;rw[c11]at hl
 simp only[Value.cells]at hf hl
 obtain⟨L,hL⟩:∃ L,cs.toList=L:=⟨_,rfl⟩
 rw[hL]at hf hl;obtain⟨c0,c1,c2,c3,c4,c5,c6,c7,c8,c9,c10,rfl⟩:=list11 hl;obtain⟨y0,y1,y2,y3,y4,rfl⟩:=list5 (l:=xs) (by rw[VH];rfl);have f0:=hf 0 _ rfl;have f1:=hf 1 _ rfl;have f2:=hf 2 _ rfl;have f3:=hf 3 _ rfl;have f4:=hf 4 _ rfl
 simp[cs1]at f0
 simp[cs1]at f1
 simp[cs1,ci]at f2
 simp[cs1,ci]at f3
 simp[cs1,ci,ck]at f4
 obtain⟨s0,e0,_,w0⟩:=DataW.trod_string Tryz.underlying9 f0;obtain⟨s1,e1,_,w1⟩:=DataW.trod_string Tryz.underlying9 f1;obtain⟨k2,e2,_,w2⟩:=DataW.trod_int Tryz.underlying3 f2;obtain⟨k3,e3,_,w3⟩:=DataW.trod_int Tryz.underlying3 f3;obtain⟨q,a,e4,hk⟩:=key_open f4
 simp at e0 e1 e2 e3 e4
 obtain⟨rfl,rfl,rfl,rfl,rfl,rfl,rfl⟩:=e4;subst e0;subst e1;subst e2;subst e3
 exact⟨⟨s0,s1,k2,k3,q⟩,a,Array.ext' hL,by simpa [maxLen] using w0,by simpa [maxLen] using w1,i64_wf w2,i64_wf w3,hk⟩
theorem first_is:Rows.laid_unicode_utf8_first=Lib.firstData:=by kernel_rfl
theorem accept_is:(Rows.laid_unicode_utf8_acceptRanges:DataW Unit)=Lib.acceptData:=by kernel_rfl
theorem tabs {W:World}(hL:laidMetH Tryz.prog Rows.credCodesRow.laid W):Tabs (pe W):=by
 have h1:=Lib.laidMet.reads hL (.tail _ (.head _));have h2:=Lib.laidMet.reads hL (.head _);rw[first_is]at h1;rw[accept_is]at h2
 exact aL (utf8Tabs_of_readsT utfTypes ⟨by kernel_rfl,by kernel_rfl,by kernel_rfl,by kernel_rfl,by kernel_rfl,by kernel_rfl,by kernel_rfl⟩ h1 h2)
theorem contract (H:Type) (enc:TypeId×Value→H) (F:Stop.Interp) (W:World) (base:Nat) (args:Array Value) (ds gs:List (DataW H)) (before:List MemPlace)
  (vH:∀ (j:Nat) t v,Tryz.f3.params[j]? = some t→args[j]? = some v→Value.okWide Tryz.prog W .any base t v)
  (hW:DataW.Whole enc Tryz.prog Tryz.f3.params.toList ((OpenSpec.ofChange Rows.credCodesSpec).at F).vars false W args.toList ds gs before) (hL:laidMetH Tryz.prog Rows.credCodesRow.laid W) :
  Calls Tryz.prog 3 args W fun e W'=>∃ v,e=.returned v∧((OpenSpec.ofChange Rows.credCodesSpec).at F).post enc Tryz.prog Tryz.f3 false true false false W args v W':=by
 have KO:=hW;obtain⟨p,q,IG,hV,rfl,G6,TY⟩:=hW;have hA:DataW.TrodAll enc Tryz.prog W 0 (fun _=>true) true Tryz.f3.params.toList args.toList ds p:=IG;rw[Tryz.params3]at hA vH;obtain⟨v0,vs0,d0,ds0,p0,q0,JJ,rfl,rfl,h0,r0⟩:=trodAll_cons hA;obtain⟨v1,vs1,d1,ds1,p1,q1,rfl,rfl,rfl,h1,r1⟩:=trodAll_cons r0;obtain⟨v2,vs2,d2,ds2,p2,q2,rfl,rfl,rfl,h2,r2⟩:=trodAll_cons r1;obtain⟨v3,vs3,d3,ds3,p3,q3,rfl,rfl,rfl,h3,r3⟩:=trodAll_cons r2;obtain⟨v4,vs4,d4,ds4,p4,q4,rfl,rfl,rfl,h4,r4⟩:=trodAll_cons r3;obtain⟨v5,vs5,d5,ds5,p5,q5,rfl,rfl,rfl,h5,r5⟩:=trodAll_cons r4;obtain⟨v6,vs6,d6,ds6,p6,q6,rfl,rfl,rfl,h6,r6⟩:=trodAll_cons r5;obtain⟨rfl,rfl,rfl⟩:=trodAll_nil r6;obtain rfl:args=#[v0,v1,v2,v3,v4,v5,v6]:=by cases args;simp_all
 obtain⟨rfl,rfl⟩:=trodVars_none hV;obtain⟨cs0,rfl,_⟩:=okWide_struct Tryz.underlying26 (vH 0 _ v0 rfl rfl);obtain⟨A1,n1,c1,rfl⟩:=okWide_slice Tryz.underlying22 (vH 1 _ v1 rfl rfl);obtain⟨A2,n2,c2,rfl⟩:=okWide_slice Tryz.underlying27 (vH 2 _ v2 rfl rfl);have I5:=h3;obtain⟨z3,rfl,rfl,rfl,wz3⟩:=open_int Tryz.underlying3 (vH 3 _ v3 rfl rfl) h3;have I8:=h4;obtain⟨z4,rfl,rfl,rfl,wz4⟩:=open_int Tryz.underlying3 (vH 4 _ v4 rfl rfl) h4;have I9:=h5;obtain⟨z5,rfl,rfl,rfl,wz5⟩:=open_int Tryz.underlying3 (vH 5 _ v5 rfl rfl) h5;have ID:=h6;obtain⟨z6,rfl,rfl,rfl,wz6⟩:=open_int Tryz.underlying3 (vH 6 _ v6 rfl rfl) h6;obtain⟨c0,a0,rfl,hc⟩:=claims_arg h0;obtain⟨x1,pq,wU⟩:=bytes_arg h1;obtain⟨l,rfl,hl⟩:=ints_arg h2;have ye:∀ z∈p0++(p1++(p2++([]++([]++([]++([]++[]))))))++[],z.block<W.heap.size:=fun z hz=>by simpa using KO.lt z hz
 refine(ce (tabs hL) hc pq.symm wU hl z3 z4 z5 z6 (i64_wf wz4) (i64_wf wz6) W (cY W)).mono fun e W' ⟨he,bel⟩=>?_
 subst he
 have st:∀ {t:TypeId} {v:Value} {d:DataW H} {ps:List MemPlace},DataW.Trod enc Tryz.prog W 0 (fun _=>true) true t v d ps→Tryz.prog.readableRec t=true→t<Tryz.prog.types.size→(∀ z∈ps,z∈p0++(p1++(p2++([]++([]++([]++([]++[]))))))++[])→DataW.Trod enc Tryz.prog W' 0 (fun b=>decide (b<W.heap.size)) true t v d ps :=
  fun h hr hs Yy=>Below.trod laid_out hr hs h bel (fun z hz=>ye z (Yy z hz))
 refine⟨_,rfl,_,_,_,[],p0++(p1++(p2++([]++([]++([]++([]++[])))))),[],KO, ?_, ?_, ?_,bel.frame _,fun h=>by cases h⟩
 ·exact trodAll_mk1 (shut_bool Tryz.underlying4 _)
 ·exact trodAll_cons_mk (st h0 (by kernel_rfl) (of_decide_eq_true (by kernel_rfl)) (fun z hz=>by simp[hz])) (trodAll_cons_mk (st h1 (by kernel_rfl) (of_decide_eq_true (by kernel_rfl)) (fun z hz=>by simp[hz])) (trodAll_cons_mk (st h2 (by kernel_rfl) (of_decide_eq_true (by kernel_rfl)) (fun z hz=>by simp[hz])) (trodAll_cons_mk (st I5 (by kernel_rfl) (of_decide_eq_true (by kernel_rfl)) (fun z hz=>by cases hz)) (trodAll_cons_mk (st I8 (by kernel_rfl) (of_decide_eq_true (by kernel_rfl)) (fun z hz=>by cases hz)) (trodAll_cons_mk (st I9 (by kernel_rfl) (of_decide_eq_true (by kernel_rfl)) (fun z hz=>by cases hz)) (trodAll_cons_mk (st ID (by kernel_rfl) (of_decide_eq_true (by kernel_rfl)) (fun z hz=>by cases hz)) (trodAll_mk0)))))))
 rfl
theorem lifted (os:Os) (started:os.Started) (H:Type) (enc:TypeId×Value→H) (F:Stop.Interp) :
  ReturnsInHanded {} Tryz.checked os 3 .any ((OpenSpec.ofChange Rows.credCodesSpec).preRow enc Tryz.prog Tryz.f3 Rows.credCodesRow.domain false Rows.credCodesRow.laid) (((OpenSpec.ofChange Rows.credCodesSpec).at F).post enc Tryz.prog Tryz.f3 false true false false):=by
 obtain⟨places,hx⟩:=reads os enc
 refine returnsInHanded_of_row (C:=Tryz.checked) (s:=OpenSpec.ofChange Rows.credCodesSpec) own started (by kernel_rfl) Tryz.func3
  (witness_row_at (enc:=enc) (C:=Tryz.checked) false (laidWorld os) args0 rfl (by kernel_rfl) (by kernel_rfl) (by kernel_rfl)
   (OpenSpec.preRow_of_cond 8 hx (by kernel_rfl) (fun k hk=>by cases hk) (by kernel_rfl) (laid_met os))) ?_
 intro W base args ds gs before vH hW _ _ _ hL _ _
 exact contract H enc F W base args ds gs before vH hW hL
theorem said:Rows.CredCodesSaid :=
 OpenClaim.holds_of_cond 3 Tryz.f3 rfl rfl rfl rfl rfl rfl rfl ⟨rfl,rfl,rfl,rfl,rfl⟩ rfl rfl rfl rfl rfl (by kernel_rfl) Tryz.func3 (by kernel_rfl)
  (of_decide_eq_true (by kernel_rfl)) (by unfold Func.isWrapper;first | (rw[if_pos (by decide +kernel)];kernel_rfl) | (rw[if_neg (by decide +kernel)];exact⟨rfl,rfl⟩))
  (fun os started H enc _ F=>by rw[OpenClaim.pre_eq_preRow];exact lifted os started H enc F)
theorem plain (f : FuncId) (fn : Func) (hf : Tryz.pinned.checked.prog.funcNamed "coresec/coreseclaw21.CredCodes" = some f) (hfn : Tryz.pinned.checked.prog.funcs[f]? = some fn) :
  false=Tryz.pinned.checked.prog.looks []∧∀ (j:Nat) t,fn.params[j]? = some t→Tryz.pinned.checked.prog.wantsStandIn t=false:=by
 obtain rfl : f = 3 := Option.some.inj ((show Tryz.prog.funcNamed "coresec/coreseclaw21.CredCodes" = some 3 by kernel_rfl).symm.trans hf) |>.symm;obtain rfl : fn = Tryz.f3 := (Option.some.inj (Tryz.func3.symm.trans hfn)).symm
 refine⟨by kernel_rfl,fun j t ht=>?_⟩
 rw[Tryz.params3]at ht;have hm:=Array.mem_of_getElem? ht
 simp at hm
 rcases hm with rfl | rfl | rfl | rfl
 ·exact(show Tryz.prog.wantsStandIn 26=false by kernel_rfl)
 ·exact(show Tryz.prog.wantsStandIn 22=false by kernel_rfl)
 ·exact(show Tryz.prog.wantsStandIn 27=false by kernel_rfl)
 exact(show Tryz.prog.wantsStandIn 3=false by kernel_rfl)
theorem card:Rows.CredCodesCardSaid :=
 Claim7.holds_tied_plain_at .later [] _ _ _ _ said (fun _ h=>by cases h) (by kernel_rfl) (fun _ h=>by cases h) credCodes_row_tie rfl ⟨rfl,rfl⟩ (by kernel_rfl) rfl plain (by kernel_rfl)
end Go.Proofs.YtgcjjhibdbafmabGreatDoor.credcodes
