/- squeezed. Proved: coreseclaw35.ManagerGroups returns true for every input, and behind the call every argument reads as it read before. Conditions: none beyond the given card itself (the two listed tables of unicode/utf8 read as the text of the program lays them); no bound on sizes. -/
import Derived.Test.YtgaoknihklmakabGreatDoorCards
import Derived.Test.YtgaoknihklmakabGreatDoorTie
import Derived.Test.YtgaoknihklmakabGreatDoorK28
import Derived.Lib.LaidIn
import Derived.Lib.LaidU8T
import Derived.Deep.DeepHandedRow
import Derived.Deep.DeepWitnessRowRef
import Derived.ProofKit
import Derived.SizedLaws
set_option linter.unusedVariables false
set_option linter.unusedSimpArgs false
set_option maxRecDepth 100000
set_option maxHeartbeats 4000000
namespace Go.Proofs.YtgaoknihklmakabGreatDoor.managergroups
open Go.ChangeMaps (open_string)
open Go.ChangeShapes Go.WideShapes Go.ChangeAt Go.RowKit Go.Lib Go.Shelf
def utfRen24:Go.Shelf.Ren:=⟨fun n=>n,
 fun | 5=>5 | 119=>87 | 138=>89 | 139=>90 | n=>n,
 fun | 3=>0 | 4=>1 | n=>n⟩
theorem utfTypes:U8Types Tryz.prog utfRen24:=⟨Tryz.underlying5,Tryz.underlying87,Tryz.underlying89,Tryz.underlying90⟩
theorem laid_out:laidOutB Tryz.prog=true:=by kernel_rfl
theorem own:ownKnob Tryz.prog.godebug=none:=by kernel_rfl
noncomputable def laidWorld (os:Os):World :=
 let w0:=World.holding Tryz.prog os ⟨#[],#[],[]⟩
 let put (h:Array Obj) (g:Nat) (cs:Array Value):Array Obj:=h.modify g fun
  | .cells _ t frozen=>.cells cs t frozen
  | o=>o
 let h1:=put w0.heap 0 (Lib.firstTab.map fun z=>Value.int .u8 z).toArray
 let h2:=put h1 1 ((List.range 16).flatMap fun i=>[Value.int .u8 (Lib.accLo i),Value.int .u8 (Lib.accHi i)]).toArray
 { w0 with heap:=h2 }
abbrev args0:Array Value:=#[.agg #[.slice none 0 0,.slice none 0 0,.int .i64 0,.slice none 0 0],.agg #[.string ⟨#[]⟩,.slice none 0 0,.int .i64 0,.slice none 0 0,.slice none 0 0,.slice none 0 0,.int .i64 0],.slice none 0 0,.slice none 0 0,.slice none 0 0,.string ⟨#[]⟩]
theorem laid_met (os:Os):laidMet Tryz.prog Rows.managerGroupsRow.laid ((laidWorld os).forCall (fun _ _=>0) ⟨#[],args0,[]⟩).memory :=
 laidMet_of_run' 8 (by kernel_rfl) (by kernel_rfl)
theorem reads (os:Os) {H:Type}(enc:TypeId×Value→H):∃ places,DataW.whole enc Tryz.prog ((laidWorld os).forCall (fun _ _=>0) ⟨#[],args0,[]⟩).memory Tryz.f3.params.toList Rows.managerGroupsSpec.vars false args0.toList 8=some ([.agg [.nil,.nil,.lit (.int .i64 0),.nil],.agg [.lit (.string []),.nil,.lit (.int .i64 0),.nil,.nil,.nil,.lit (.int .i64 0)],.nil,.nil,.nil,.lit (.string [])],[],places) :=
 ⟨[],by kernel_rfl⟩
theorem ints_arg {H:Type}{enc:TypeId×Value→H}{W:World}{a0:Option Addr}{len cap:Nat}{d:DataW H}{p:List MemPlace}(h:DataW.Trod enc Tryz.prog W 0 (fun _=>true) true 28 (.slice a0 len cap) d p) :
  ∃ l:List Int,l.length=len∧IsInts (qN W) a0 cap l:=by
 obtain⟨fuel,hf⟩:=h
 rcases open_ints Tryz.underlying28 Tryz.underlying3 (by kernel_rfl) hf with ⟨oV,hx⟩ | ⟨a,len',cap',zs,oV,_,hl,hm,hz,hx,yF,S3⟩
 ·simp[Value.cells]at oV
  obtain⟨rfl,rfl,rfl⟩:=oV
  exact⟨[],rfl,by simp,by omega,Row.nil _ _,by simp⟩
 simp[Value.cells]at oV
 obtain⟨rfl,rfl,rfl⟩:=oV;have h1:=VK hl hm (by simp at hz;omega) yF S3
 exact⟨_,h1.2,h1.1⟩
theorem bytes_arg {H:Type}{enc:TypeId×Value→H}{W:World}{a0:Option Addr}{len cap:Nat}{d:DataW H}{p:List MemPlace}(h:DataW.Trod enc Tryz.prog W 0 (fun _=>true) true 22 (.slice a0 len cap) d p) :
  ∃ l:List UInt8,l.length=len∧IsBytes (qN W) a0 cap l:=by
 obtain⟨fuel,hf⟩:=h
 rcases open_ints Tryz.underlying22 Tryz.underlying5 (by kernel_rfl) hf with ⟨oV,hx⟩ | ⟨a,len',cap',zs,oV,_,hl,hm,hz,hx,yF,S3⟩
 ·simp[Value.cells]at oV
  obtain⟨rfl,rfl,rfl⟩:=oV
  exact⟨[],rfl,IsBytes.nil _⟩
 simp[Value.cells]at oV
 obtain⟨rfl,rfl,rfl⟩:=oV;have h1:=fM hl hm (by simp at hz;omega) yF S3
 exact⟨_,h1.2,h1.1⟩
theorem i64_wf {n:Int}(h:(Lit.int .i64 n).wf=true) : -9223372036854775808≤n∧n≤9223372036854775807:=by
 simp[Lit.wf]at h
 have h1:IntKind.i64.min = -9223372036854775808:=by decide
 have h2:IntKind.i64.max=9223372036854775807:=by decide
 omega
theorem list7 {α:Type}{l:List α}(h:l.length=7):∃ a b c d e f g,l=[a,b,c,d,e,f,g]:=by
 match l,h with
 | [a,b,c,d,e,f,g],_=>exact⟨a,b,c,d,e,f,g,rfl⟩
instance:Inhabited Mb:=⟨Nx⟩
theorem rowC_of0 {H:Snap}:∀ (l:List Mb) (b off:Nat),(∀ (j:Nat) (hj:j<l.length),∃ d,qu.E H l[j] d∧∀ i v,d[i]? = some v→H.cell? ⟨b,off+(j*qu.k+i),none⟩=some v)→∃ cs,RowC qu H cs l∧aq H b off cs:=Wr (L:=qu)
theorem member_open {H:Type}{enc:TypeId×Value→H}{W:World}{fuel:Nat}{L:List Value}{x:DataW H×List MemPlace}(Yt:DataW.trod enc Tryz.prog W 0 (fun _=>true) true fuel 27 L=some x) :
  ∃ (m:Mb) (a:MAd),L=(y7 m a).toList∧MemB (qN W) m a:=by
 have ci:Tryz.prog.cellsOf 3=1:=by kernel_rfl
 have cs1:Tryz.prog.cellsOf 9=1:=by kernel_rfl
 have cb:Tryz.prog.cellsOf 22=1:=by kernel_rfl
 have c7:Tryz.prog.cellsOf 27=7:=by kernel_rfl
 obtain⟨xs,n1,pz,_,hl,ZG,hf⟩:=DataW.trod_struct Tryz.underlying27 Yt;rw[c7]at hl;obtain⟨c0,c1,c2,c3,c4,c5,c6,rfl⟩:=list7 hl;obtain⟨y0,y1,y2,y3,y4,y5,y6,rfl⟩:=list7 (l:=xs) (by rw[ZG];rfl);have f0:=hf 0 _ rfl;have f1:=hf 1 _ rfl;have f2:=hf 2 _ rfl;have f3:=hf 3 _ rfl;have f4:=hf 4 _ rfl;have f5:=hf 5 _ rfl;have f6:=hf 6 _ rfl
 simp[cs1]at f0
 simp[cs1,cb]at f1
 simp[cs1,cb,ci]at f2
 simp[cs1,cb,ci]at f3
 simp[cs1,cb,ci]at f4
 simp[cs1,cb,ci]at f5
 simp[cs1,cb,ci]at f6
 obtain⟨s0,e0,_,w0⟩:=DataW.trod_string Tryz.underlying9 f0;obtain⟨sa,sc,sb,rfl,hs⟩:=sq f1;obtain⟨k2,e2,_,w2⟩:=DataW.trod_int Tryz.underlying3 f2;obtain⟨ca,cc,cbs,rfl,hc⟩:=sq f3;obtain⟨ha,dD,Uo,rfl,hh⟩:=sq f4;obtain⟨wa,wc,wb,rfl,hw⟩:=sq f5;obtain⟨k6,e6,_,w6⟩:=DataW.trod_int Tryz.underlying3 f6
 simp at e0 e2 e6
 subst e0;subst e2;subst e6
 exact⟨⟨s0,sb,k2,cbs,Uo,wb,k6⟩,⟨sa,sc,ca,cc,ha,dD,wa,wc⟩,rfl,⟨hs,hc,hh,hw⟩⟩
theorem members_cell {H:Type}{enc:TypeId×Value→H}{W:World}{fuel:Nat}{v:Value}{x:DataW H×List MemPlace}(hf:DataW.trod enc Tryz.prog W 0 (fun _=>true) true fuel 23 [v]=some x) :
  ∃ (a0:Option Addr) (cap:Nat) (l:List Mb),v=.slice a0 l.length cap∧IsRow qu (qN W) a0 cap l:=by
 have c7:Tryz.prog.cellsOf 27=7:=by kernel_rfl
 rcases DataW.trod_slice Tryz.underlying23 hf with ⟨e3,_⟩ | ⟨a,len,cap,elems,rest,n2,rY,e3,_,_,eC,mv,xF,un,_,_⟩
 ·simp at e3
  exact⟨none,0,[],e3,IsRow.nil _ _⟩
 simp at e3
 rw[c7]at un
 have each:∀ i,i<len→∃ y:Mb,∃ cs',W.cells? 0 (a.add (i*7)) 7=some cs'∧qu.E (qN W) y cs':=fun i hi=>by
  have IK:i<elems.length:=by omega
  have h1:=un i hi;rw[List.getElem?_eq_getElem IK,Option.bind_eq_some_iff]at h1;obtain⟨cs',h1,h2⟩:=h1;obtain⟨y,ya,hy,hm⟩:=member_open h2
  exact⟨y,cs',h1,ya,hy,hm⟩
 obtain⟨Y,hY⟩:=Go.Deep.choose_lt each;obtain⟨l,lU⟩:∃ l,(List.range len).map (fun i=>Y i)=l:=⟨_,rfl⟩
 have Pv:l.length=len:=by rw[← lU];simp
 have Fu:cap≤9223372036854775807:=by simpa [maxLen] using mv
 refine⟨some a,cap,l,by rw[Pv];exact e3,by rw[Pv];exact eC,Fu,fun h0=>?_⟩
 rw[Pv]at h0;obtain⟨b,off,spot⟩:=a
 have i8:spot=none:=by
  obtain⟨cs',h1,h2⟩:=hY 0 h0;obtain⟨_,rE,h3⟩:=World.cells?_some h1;have h4:=h3 0 (by omega);have Yv:=qu.len h2;rw[List.getElem?_eq_getElem (by rw[Yv];show 0<7;omega)]at h4
  simpa [Addr.add] using World.cell?_spot h4
 subst i8
 obtain⟨cs,h1,h2⟩:=rowC_of0 l b off fun i hi=>by
  rw[Pv]at hi;obtain⟨cs',h1,h2⟩:=hY i hi;obtain⟨_,_,h4⟩:=World.cells?_some h1;have g:l[i]'(by omega)=Y i:=by subst lU;simp
  have Yv:=qu.len h2
  refine⟨cs',by rw[g];exact h2,fun j v hv=>?_⟩
  have hj:j<7:=by
   have:=(List.getElem?_eq_some_iff.1 hv).1;rw[Yv]at this
   exact this
  rw[← hv,← h4 j hj,add_plain,add_plain,lp,Nat.add_assoc];rfl
 exact⟨b,off,cs,rfl,h1,h2⟩
theorem list4 {α:Type}{l:List α}(h:l.length=4):∃ a b c d,l=[a,b,c,d]:=by
 match l,h with
 | [a,b,c,d],_=>exact⟨a,b,c,d,rfl⟩
theorem group_arg {H:Type}{enc:TypeId×Value→H}{W:World}{cs:Array Value}{d:DataW H}{p:List MemPlace}(h:DataW.Trod enc Tryz.prog W 0 (fun _=>true) true 25 (.agg cs) d p) :
  ∃ (g:Gp) (a:EAd),cs=gpQ g a∧GpB (qN W) g a:=by
 have ci:Tryz.prog.cellsOf 3=1:=by kernel_rfl
 have cb:Tryz.prog.cellsOf 22=1:=by kernel_rfl
 have cm:Tryz.prog.cellsOf 23=1:=by kernel_rfl
 have c4:Tryz.prog.cellsOf 25=4:=by kernel_rfl
 obtain⟨fuel,Yt⟩:=h;obtain⟨xs,n1,pz,_,hl,ZG,hf⟩:=DataW.trod_struct Tryz.underlying25 Yt;rw[c4]at hl
 simp only[Value.cells]at hf hl
 obtain⟨L,hL⟩:∃ L,cs.toList=L:=⟨_,rfl⟩
 rw[hL]at hf hl;obtain⟨c0,c1,c2,c3,rfl⟩:=list4 hl;obtain⟨y0,y1,y2,y3,rfl⟩:=list4 (l:=xs) (by rw[ZG];rfl);have f0:=hf 0 _ rfl;have f1:=hf 1 _ rfl;have f2:=hf 2 _ rfl;have f3:=hf 3 _ rfl
 simp[cb]at f0
 simp[cb]at f1
 simp[cb,ci]at f2
 simp[cb,ci,cm]at f3
 obtain⟨ia,ic,ib,rfl,hi⟩:=sq f0;obtain⟨sa,sc,sb,rfl,hs⟩:=sq f1;obtain⟨k2,e2,_,w2⟩:=DataW.trod_int Tryz.underlying3 f2;obtain⟨ma,mc,ml,rfl,hm⟩:=members_cell f3
 simp at e2
 subst e2
 exact⟨⟨ib,sb,k2,ml⟩,⟨ia,ic,sa,sc,ma,mc⟩,Array.ext' hL,⟨hi,hs,i64_wf w2,hm⟩⟩
theorem member_arg {H:Type}{enc:TypeId×Value→H}{W:World}{cs:Array Value}{d:DataW H}{p:List MemPlace}(h:DataW.Trod enc Tryz.prog W 0 (fun _=>true) true 27 (.agg cs) d p) :
  ∃ (m:Mb) (a:MAd),cs=y7 m a∧MemB (qN W) m a:=by
 obtain⟨fuel,Yt⟩:=h;obtain⟨m,a,hL,hm⟩:=member_open Yt
 exact⟨m,a,Array.ext' hL,hm⟩
theorem first_is:Rows.laid_unicode_utf8_first=Lib.firstData:=by kernel_rfl
theorem accept_is:(Rows.laid_unicode_utf8_acceptRanges:DataW Unit)=Lib.acceptData:=by kernel_rfl
theorem tabs {W:World}(hL:laidMetH Tryz.prog Rows.managerGroupsRow.laid W):Tabs (qN W):=by
 have h1:=Lib.laidMet.reads hL (.tail _ (.head _));have h2:=Lib.laidMet.reads hL (.head _);rw[first_is]at h1;rw[accept_is]at h2
 exact Xl (utf8Tabs_of_readsT utfTypes ⟨by kernel_rfl,by kernel_rfl,by kernel_rfl,by kernel_rfl,by kernel_rfl,by kernel_rfl,by kernel_rfl⟩ h1 h2)
theorem contract (H:Type) (enc:TypeId×Value→H) (F:Stop.Interp) (W:World) (base:Nat) (args:Array Value) (ds gs:List (DataW H)) (before:List MemPlace)
  (ug:∀ (j:Nat) t v,Tryz.f3.params[j]? = some t→args[j]? = some v→Value.okWide Tryz.prog W .any base t v)
  (hW:DataW.Whole enc Tryz.prog Tryz.f3.params.toList ((OpenSpec.ofChange Rows.managerGroupsSpec).at F).vars false W args.toList ds gs before) (hL:laidMetH Tryz.prog Rows.managerGroupsRow.laid W) :
  Calls Tryz.prog 3 args W fun e W'=>∃ v,e=.returned v∧((OpenSpec.ofChange Rows.managerGroupsSpec).at F).post enc Tryz.prog Tryz.f3 false true false false W args v W':=by
 have El:=hW;obtain⟨p,q,CK,hV,rfl,hfz,Px⟩:=hW;have hA:DataW.TrodAll enc Tryz.prog W 0 (fun _=>true) true Tryz.f3.params.toList args.toList ds p:=CK;rw[Tryz.params3]at hA ug;obtain⟨v0,vs0,d0,ds0,p0,q0,DM,rfl,rfl,h0,r0⟩:=trodAll_cons hA;obtain⟨v1,vs1,d1,ds1,p1,q1,rfl,rfl,rfl,h1,r1⟩:=trodAll_cons r0;obtain⟨v2,vs2,d2,ds2,p2,q2,rfl,rfl,rfl,h2,r2⟩:=trodAll_cons r1;obtain⟨v3,vs3,d3,ds3,p3,q3,rfl,rfl,rfl,h3,r3⟩:=trodAll_cons r2;obtain⟨v4,vs4,d4,ds4,p4,q4,rfl,rfl,rfl,h4,r4⟩:=trodAll_cons r3;obtain⟨v5,vs5,d5,ds5,p5,q5,rfl,rfl,rfl,h5,r5⟩:=trodAll_cons r4;obtain⟨rfl,rfl,rfl⟩:=trodAll_nil r5;obtain rfl:args=#[v0,v1,v2,v3,v4,v5]:=by cases args;simp_all
 obtain⟨rfl,rfl⟩:=trodVars_none hV;obtain⟨cs0,rfl,_⟩:=okWide_struct Tryz.underlying25 (ug 0 _ v0 rfl rfl);obtain⟨cs1,rfl,_⟩:=okWide_struct Tryz.underlying27 (ug 1 _ v1 rfl rfl);obtain⟨A2,n2,c2,rfl⟩:=okWide_slice Tryz.underlying28 (ug 2 _ v2 rfl rfl);obtain⟨A3,n3,c3,rfl⟩:=okWide_slice Tryz.underlying22 (ug 3 _ v3 rfl rfl);obtain⟨A4,n4,c4,rfl⟩:=okWide_slice Tryz.underlying22 (ug 4 _ v4 rfl rfl);have CD:=h5;obtain⟨z5,rfl,rfl,rfl,wz5⟩:=open_string Tryz.underlying9 (ug 5 _ v5 rfl rfl) h5;obtain⟨g,a,rfl,hg⟩:=group_arg h0;obtain⟨m,b,rfl,hm⟩:=member_arg h1;obtain⟨l,rfl,hl⟩:=ints_arg h2;obtain⟨x3,rfl,Jl⟩:=bytes_arg h3;obtain⟨x4,rfl,PK⟩:=bytes_arg h4;have zB:∀ z∈p0++(p1++(p2++(p3++(p4++([]++[])))))++[],z.block<W.heap.size:=fun z hz=>by simpa using El.lt z hz
 refine(bq (tabs hL) hg hm hl Jl PK z5 W (ZR W)).mono fun e W' ⟨he,bel⟩=>?_
 subst he
 have st:∀ {t:TypeId} {v:Value} {d:DataW H} {ps:List MemPlace},DataW.Trod enc Tryz.prog W 0 (fun _=>true) true t v d ps→Tryz.prog.readableRec t=true→t<Tryz.prog.types.size→(∀ z∈ps,z∈p0++(p1++(p2++(p3++(p4++([]++[])))))++[])→DataW.Trod enc Tryz.prog W' 0 (fun b=>decide (b<W.heap.size)) true t v d ps :=
  fun h hr hs WL=>Below.trod laid_out hr hs h bel (fun z hz=>zB z (WL z hz))
 refine⟨_,rfl,_,_,_,[],p0++(p1++(p2++(p3++(p4++([]++[]))))),[],El, ?_, ?_, ?_,bel.frame _,fun h=>by cases h⟩
 ·exact trodAll_mk1 (shut_bool Tryz.underlying4 _)
 ·exact trodAll_cons_mk (st h0 (by kernel_rfl) (of_decide_eq_true (by kernel_rfl)) (fun z hz=>by simp[hz])) (trodAll_cons_mk (st h1 (by kernel_rfl) (of_decide_eq_true (by kernel_rfl)) (fun z hz=>by simp[hz])) (trodAll_cons_mk (st h2 (by kernel_rfl) (of_decide_eq_true (by kernel_rfl)) (fun z hz=>by simp[hz])) (trodAll_cons_mk (st h3 (by kernel_rfl) (of_decide_eq_true (by kernel_rfl)) (fun z hz=>by simp[hz])) (trodAll_cons_mk (st h4 (by kernel_rfl) (of_decide_eq_true (by kernel_rfl)) (fun z hz=>by simp[hz])) (trodAll_cons_mk (st CD (by kernel_rfl) (of_decide_eq_true (by kernel_rfl)) (fun z hz=>by cases hz)) (trodAll_mk0))))))
 rfl
theorem lifted (os:Os) (started:os.Started) (H:Type) (enc:TypeId×Value→H) (F:Stop.Interp) :
  ReturnsInHanded {} Tryz.checked os 3 .any ((OpenSpec.ofChange Rows.managerGroupsSpec).preRow enc Tryz.prog Tryz.f3 Rows.managerGroupsRow.domain false Rows.managerGroupsRow.laid) (((OpenSpec.ofChange Rows.managerGroupsSpec).at F).post enc Tryz.prog Tryz.f3 false true false false):=by
 obtain⟨places,hx⟩:=reads os enc
 refine returnsInHanded_of_row (C:=Tryz.checked) (s:=OpenSpec.ofChange Rows.managerGroupsSpec) own started (by kernel_rfl) Tryz.func3
  (witness_row_at (enc:=enc) (C:=Tryz.checked) false (laidWorld os) args0 rfl (by kernel_rfl) (by kernel_rfl) (by kernel_rfl)
   (OpenSpec.preRow_of_cond 8 hx (by kernel_rfl) (fun k hk=>by cases hk) (by kernel_rfl) (laid_met os))) ?_
 intro W base args ds gs before ug hW _ _ _ hL _ _
 exact contract H enc F W base args ds gs before ug hW hL
theorem said:Rows.ManagerGroupsSaid :=
 OpenClaim.holds_of_cond 3 Tryz.f3 rfl rfl rfl rfl rfl rfl rfl ⟨rfl,rfl,rfl,rfl,rfl⟩ rfl rfl rfl rfl rfl (by kernel_rfl) Tryz.func3 (by kernel_rfl)
  (of_decide_eq_true (by kernel_rfl)) (by unfold Func.isWrapper;first | (rw[if_pos (by decide +kernel)];kernel_rfl) | (rw[if_neg (by decide +kernel)];exact⟨rfl,rfl⟩))
  (fun os started H enc _ F=>by rw[OpenClaim.pre_eq_preRow];exact lifted os started H enc F)
theorem plain (f : FuncId) (fn : Func) (hf : Tryz.pinned.checked.prog.funcNamed "coresec/coreseclaw35.ManagerGroups" = some f) (hfn : Tryz.pinned.checked.prog.funcs[f]? = some fn) :
  false=Tryz.pinned.checked.prog.looks []∧∀ (j:Nat) t,fn.params[j]? = some t→Tryz.pinned.checked.prog.wantsStandIn t=false:=by
 obtain rfl : f = 3 := Option.some.inj ((show Tryz.prog.funcNamed "coresec/coreseclaw35.ManagerGroups" = some 3 by kernel_rfl).symm.trans hf) |>.symm;obtain rfl : fn = Tryz.f3 := (Option.some.inj (Tryz.func3.symm.trans hfn)).symm
 refine⟨by kernel_rfl,fun j t ht=>?_⟩
 rw[Tryz.params3]at ht;have hm:=Array.mem_of_getElem? ht
 simp at hm
 rcases hm with rfl | rfl | rfl | rfl | rfl
 ·exact(show Tryz.prog.wantsStandIn 25=false by kernel_rfl)
 ·exact(show Tryz.prog.wantsStandIn 27=false by kernel_rfl)
 ·exact(show Tryz.prog.wantsStandIn 28=false by kernel_rfl)
 ·exact(show Tryz.prog.wantsStandIn 22=false by kernel_rfl)
 exact(show Tryz.prog.wantsStandIn 9=false by kernel_rfl)
theorem card:Rows.ManagerGroupsCardSaid :=
 Claim7.holds_tied_plain_at .later [] _ _ _ _ said (fun _ h=>by cases h) (by kernel_rfl) (fun _ h=>by cases h) managerGroups_row_tie rfl ⟨rfl,rfl⟩ (by kernel_rfl) rfl plain (by kernel_rfl)
end Go.Proofs.YtgaoknihklmakabGreatDoor.managergroups
