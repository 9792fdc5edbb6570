/- squeezed. Proved: coreseclaw24.EdhocSeals returns true for every input, and behind the call every argument reads as it read before. Conditions: none beyond the given card itself (the two listed tables of unicode/utf8 read as the text of the program lays them); no bound on sizes. -/
import Derived.Test.YtkmlnjociijpgaaGreatDoorCards
import Derived.Test.YtkmlnjociijpgaaGreatDoorTie
import Derived.Test.YtkmlnjociijpgaaGreatDoorK39
import Derived.Lib.LaidIn
import Derived.Lib.LaidU8T
import Derived.Deep.DeepHandedRow
import Derived.Deep.DeepWitnessRowRef
import Derived.ProofKit
import Derived.SizedLaws
set_option linter.unusedVariables false
set_option linter.unusedSimpArgs false
set_option maxRecDepth 100000
set_option maxHeartbeats 4000000
namespace Go.Proofs.YtkmlnjociijpgaaGreatDoor.seals
open Go.ChangeShapes Go.WideShapes Go.ChangeAt Go.RowKit Go.Lib Go.Shelf
def utfRen24:Go.Shelf.Ren:=⟨fun n=>n,
 fun | 5=>5 | 119=>151 | 138=>225 | 139=>226 | n=>n,
 fun | 3=>0 | 4=>1 | n=>n⟩
theorem utfTypes:U8Types Tryz.prog utfRen24:=⟨Tryz.underlying5,Tryz.underlying151,Tryz.underlying225,Tryz.underlying226⟩
theorem laid_out:laidOutB Tryz.prog=true:=by kernel_rfl
theorem own:ownKnob Tryz.prog.godebug=none:=by kernel_rfl
noncomputable def laidWorld (os:Os):World :=
 let w0:=World.holding Tryz.prog os ⟨#[],#[],[]⟩
 let put (h:Array Obj) (g:Nat) (cs:Array Value):Array Obj:=h.modify g fun
  | .cells _ t frozen=>.cells cs t frozen
  | o=>o
 let h1:=put w0.heap 0 (Lib.firstTab.map fun z=>Value.int .u8 z).toArray
 let h2:=put h1 1 ((List.range 16).flatMap fun i=>[Value.int .u8 (Lib.accLo i),Value.int .u8 (Lib.accHi i)]).toArray
 { w0 with heap:=h2 }
abbrev args0:Array Value:=#[.slice none 0 0,.slice none 0 0,.slice none 0 0,.slice none 0 0,.slice none 0 0,.int .i64 0,.int .i64 0,.int .i64 0,.int .i64 0]
theorem laid_met (os:Os):laidMet Tryz.prog Rows.edhocSealsRow.laid ((laidWorld os).forCall (fun _ _=>0) ⟨#[],args0,[]⟩).memory :=
 laidMet_of_run' 8 (by kernel_rfl) (by kernel_rfl)
theorem reads (os:Os) {H:Type}(enc:TypeId×Value→H):∃ places,DataW.whole enc Tryz.prog ((laidWorld os).forCall (fun _ _=>0) ⟨#[],args0,[]⟩).memory Tryz.f3.params.toList Rows.edhocSealsSpec.vars false args0.toList 8=some ([.nil,.nil,.nil,.nil,.nil,.lit (.int .i64 0),.lit (.int .i64 0),.lit (.int .i64 0),.lit (.int .i64 0)],[],places) :=
 ⟨[],by kernel_rfl⟩
theorem bytes_arg {H:Type}{enc:TypeId×Value→H}{W:World}{a0:Option Addr}{len cap:Nat}{d:DataW H}{p:List MemPlace}(h:DataW.Trod enc Tryz.prog W 0 (fun _=>true) true 22 (.slice a0 len cap) d p) :
  ∃ l:List UInt8,l.length=len∧IsBytes (gp W) a0 cap l:=by
 obtain⟨fuel,hf⟩:=h
 rcases open_ints Tryz.underlying22 Tryz.underlying5 (by kernel_rfl) hf with ⟨cU,hx⟩ | ⟨a,len',cap',zs,cU,_,hl,hm,hz,hx,y7,hwz⟩
 ·simp[Value.cells]at cU
  obtain⟨rfl,rfl,rfl⟩:=cU
  exact⟨[],rfl,IsBytes.nil _⟩
 simp[Value.cells]at cU
 obtain⟨rfl,rfl,rfl⟩:=cU;have h1:=Wl hl hm (by simp at hz;omega) y7 hwz
 exact⟨_,h1.2,h1.1⟩
theorem first_is:Rows.laid_unicode_utf8_first=Lib.firstData:=by kernel_rfl
theorem accept_is:(Rows.laid_unicode_utf8_acceptRanges:DataW Unit)=Lib.acceptData:=by kernel_rfl
theorem tabs {W:World}(hL:laidMetH Tryz.prog Rows.edhocSealsRow.laid W):Tabs (gp W):=by
 have h1:=Lib.laidMet.reads hL (.tail _ (.head _));have h2:=Lib.laidMet.reads hL (.head _);rw[first_is]at h1;rw[accept_is]at h2
 exact Wx (utf8Tabs_of_readsT utfTypes ⟨by kernel_rfl,by kernel_rfl,by kernel_rfl,by kernel_rfl,by kernel_rfl,by kernel_rfl,by kernel_rfl⟩ h1 h2)
theorem contract (H:Type) (enc:TypeId×Value→H) (F:Stop.Interp) (W:World) (base:Nat) (args:Array Value) (ds gs:List (DataW H)) (before:List MemPlace)
  (hval:∀ (j:Nat) t v,Tryz.f3.params[j]? = some t→args[j]? = some v→Value.okWide Tryz.prog W .any base t v)
  (hW:DataW.Whole enc Tryz.prog Tryz.f3.params.toList ((OpenSpec.ofChange Rows.edhocSealsSpec).at F).vars false W args.toList ds gs before) (hL:laidMetH Tryz.prog Rows.edhocSealsRow.laid W) :
  Calls Tryz.prog 3 args W fun e W'=>∃ v,e=.returned v∧((OpenSpec.ofChange Rows.edhocSealsSpec).at F).post enc Tryz.prog Tryz.f3 false true false false W args v W':=by
 have Am:=hW;obtain⟨p,q,hA0,hV,rfl,hfz,hnd⟩:=hW;have hA:DataW.TrodAll enc Tryz.prog W 0 (fun _=>true) true Tryz.f3.params.toList args.toList ds p:=hA0;rw[Tryz.params3]at hA hval;obtain⟨v0,vs0,d0,ds0,p0,q0,zAd,rfl,rfl,h0,r0⟩:=trodAll_cons hA;obtain⟨v1,vs1,d1,ds1,p1,q1,rfl,rfl,rfl,h1,r1⟩:=trodAll_cons r0;obtain⟨v2,vs2,d2,ds2,p2,q2,rfl,rfl,rfl,h2,r2⟩:=trodAll_cons r1;obtain⟨v3,vs3,d3,ds3,p3,q3,rfl,rfl,rfl,h3,r3⟩:=trodAll_cons r2;obtain⟨v4,vs4,d4,ds4,p4,q4,rfl,rfl,rfl,h4,r4⟩:=trodAll_cons r3;obtain⟨v5,vs5,d5,ds5,p5,q5,rfl,rfl,rfl,h5,r5⟩:=trodAll_cons r4;obtain⟨v6,vs6,d6,ds6,p6,q6,rfl,rfl,rfl,h6,r6⟩:=trodAll_cons r5;obtain⟨v7,vs7,d7,ds7,p7,q7,rfl,rfl,rfl,h7,r7⟩:=trodAll_cons r6;obtain⟨v8,vs8,d8,ds8,p8,q8,rfl,rfl,rfl,h8,r8⟩:=trodAll_cons r7;obtain⟨rfl,rfl,rfl⟩:=trodAll_nil r8
 obtain rfl:args=#[v0,v1,v2,v3,v4,v5,v6,v7,v8]:=by cases args;simp_all
 obtain⟨rfl,rfl⟩:=trodVars_none hV;obtain⟨A0,n0,c0,rfl⟩:=okWide_slice Tryz.underlying22 (hval 0 _ v0 rfl rfl);obtain⟨A1,n1,c1,rfl⟩:=okWide_slice Tryz.underlying22 (hval 1 _ v1 rfl rfl);obtain⟨A2,n2,c2,rfl⟩:=okWide_slice Tryz.underlying22 (hval 2 _ v2 rfl rfl);obtain⟨A3,n3,c3,rfl⟩:=okWide_slice Tryz.underlying22 (hval 3 _ v3 rfl rfl);obtain⟨A4,n4,c4,rfl⟩:=okWide_slice Tryz.underlying22 (hval 4 _ v4 rfl rfl);have h5k:=h5;have h6k:=h6;have h7k:=h7;have h8k:=h8;obtain⟨m5,rfl,rfl,rfl,_⟩:=open_int Tryz.underlying3 (hval 5 _ v5 rfl rfl) h5;obtain⟨m6,rfl,rfl,rfl,_⟩:=open_int Tryz.underlying3 (hval 6 _ v6 rfl rfl) h6;obtain⟨m7,rfl,rfl,rfl,_⟩:=open_int Tryz.underlying3 (hval 7 _ v7 rfl rfl) h7;obtain⟨m8,rfl,rfl,rfl,_⟩:=open_int Tryz.underlying3 (hval 8 _ v8 rfl rfl) h8;obtain⟨x0,rfl,eL⟩:=bytes_arg h0;obtain⟨x1,rfl,rl⟩:=bytes_arg h1
 obtain⟨x2,rfl,oM⟩:=bytes_arg h2;obtain⟨x3,rfl,Sa⟩:=bytes_arg h3;obtain⟨x4,rfl,J4⟩:=bytes_arg h4;have z9:∀ z∈p0++(p1++(p2++(p3++(p4++([]++([]++([]++([]++[]))))))))++[],z.block<W.heap.size:=fun z hz=>by simpa using Am.lt z hz
 refine(Yn (tabs hL) eL rl oM Sa J4 m5 m6 m7 m8 W (Ym W)).mono fun e W' ⟨he,bel⟩=>?_
 subst he
 have st:∀ {t:TypeId} {v:Value} {d:DataW H} {ps:List MemPlace},DataW.Trod enc Tryz.prog W 0 (fun _=>true) true t v d ps→Tryz.prog.readableRec t=true→t<Tryz.prog.types.size→(∀ z∈ps,z∈p0++(p1++(p2++(p3++(p4++([]++([]++([]++([]++[]))))))))++[])→DataW.Trod enc Tryz.prog W' 0 (fun b=>decide (b<W.heap.size)) true t v d ps :=
  fun h hr hs iL=>Below.trod laid_out hr hs h bel (fun z hz=>z9 z (iL z hz))
 refine⟨_,rfl,_,_,_,[],p0++(p1++(p2++(p3++(p4++([]++([]++([]++([]++[])))))))),[],Am, ?_, ?_, ?_,bel.frame _,fun h=>by cases h⟩
 ·exact trodAll_mk1 (shut_bool Tryz.underlying4 _)
 ·exact trodAll_cons_mk (st h0 (by kernel_rfl) (of_decide_eq_true (by kernel_rfl)) (fun z hz=>by simp[hz])) (trodAll_cons_mk (st h1 (by kernel_rfl) (of_decide_eq_true (by kernel_rfl)) (fun z hz=>by simp[hz])) (trodAll_cons_mk (st h2 (by kernel_rfl) (of_decide_eq_true (by kernel_rfl)) (fun z hz=>by simp[hz])) (trodAll_cons_mk (st h3 (by kernel_rfl) (of_decide_eq_true (by kernel_rfl)) (fun z hz=>by simp[hz])) (trodAll_cons_mk (st h4 (by kernel_rfl) (of_decide_eq_true (by kernel_rfl)) (fun z hz=>by simp[hz])) (trodAll_cons_mk (st h5k (by kernel_rfl) (of_decide_eq_true (by kernel_rfl)) (fun z hz=>by simp at hz)) (trodAll_cons_mk (st h6k (by kernel_rfl) (of_decide_eq_true (by kernel_rfl)) (fun z hz=>by simp at hz)) (trodAll_cons_mk (st h7k (by kernel_rfl) (of_decide_eq_true (by kernel_rfl)) (fun z hz=>by simp at hz)) (trodAll_cons_mk (st h8k (by kernel_rfl) (of_decide_eq_true (by kernel_rfl)) (fun z hz=>by simp at hz)) trodAll_mk0))))))))
 rfl
theorem lifted (os:Os) (started:os.Started) (H:Type) (enc:TypeId×Value→H) (F:Stop.Interp) :
  ReturnsInHanded {} Tryz.checked os 3 .any ((OpenSpec.ofChange Rows.edhocSealsSpec).preRow enc Tryz.prog Tryz.f3 Rows.edhocSealsRow.domain false Rows.edhocSealsRow.laid) (((OpenSpec.ofChange Rows.edhocSealsSpec).at F).post enc Tryz.prog Tryz.f3 false true false false):=by
 obtain⟨places,hx⟩:=reads os enc
 refine returnsInHanded_of_row (C:=Tryz.checked) (s:=OpenSpec.ofChange Rows.edhocSealsSpec) own started (by kernel_rfl) Tryz.func3
  (witness_row_at (enc:=enc) (C:=Tryz.checked) false (laidWorld os) args0 rfl (by kernel_rfl) (by kernel_rfl) (by kernel_rfl)
   (OpenSpec.preRow_of_cond 8 hx (by kernel_rfl) (fun k hk=>by cases hk) (by kernel_rfl) (laid_met os))) ?_
 intro W base args ds gs before hval hW _ _ _ hL _ _
 exact contract H enc F W base args ds gs before hval hW hL
theorem said:Rows.EdhocSealsSaid :=
 OpenClaim.holds_of_cond 3 Tryz.f3 rfl rfl rfl rfl rfl rfl rfl ⟨rfl,rfl,rfl,rfl,rfl⟩ rfl rfl rfl rfl rfl (by kernel_rfl) Tryz.func3 (by kernel_rfl)
  (of_decide_eq_true (by kernel_rfl)) (by unfold Func.isWrapper;first | (rw[if_pos (by decide +kernel)];kernel_rfl) | (rw[if_neg (by decide +kernel)];exact⟨rfl,rfl⟩))
  (fun os started H enc _ F=>by rw[OpenClaim.pre_eq_preRow];exact lifted os started H enc F)
theorem plain (f : FuncId) (fn : Func) (hf : Tryz.pinned.checked.prog.funcNamed "coresec/coreseclaw24.EdhocSeals" = some f) (hfn : Tryz.pinned.checked.prog.funcs[f]? = some fn) :
  false=Tryz.pinned.checked.prog.looks []∧∀ (j:Nat) t,fn.params[j]? = some t→Tryz.pinned.checked.prog.wantsStandIn t=false:=by
 obtain rfl : f = 3 := Option.some.inj ((show Tryz.prog.funcNamed "coresec/coreseclaw24.EdhocSeals" = some 3 by kernel_rfl).symm.trans hf) |>.symm;obtain rfl : fn = Tryz.f3 := (Option.some.inj (Tryz.func3.symm.trans hfn)).symm
 refine⟨by kernel_rfl,fun j t ht=>?_⟩
 rw[Tryz.params3]at ht;have hm:=Array.mem_of_getElem? ht
 simp at hm
 rcases hm with rfl | rfl
 ·exact(show Tryz.prog.wantsStandIn 22=false by kernel_rfl)
 exact(show Tryz.prog.wantsStandIn 3=false by kernel_rfl)
theorem card:Rows.EdhocSealsCardSaid :=
 Claim7.holds_tied_plain_at .later [] _ _ _ _ said (fun _ h=>by cases h) (by kernel_rfl) (fun _ h=>by cases h) edhocSeals_row_tie rfl ⟨rfl,rfl⟩ (by kernel_rfl) rfl plain (by kernel_rfl)
end Go.Proofs.YtkmlnjociijpgaaGreatDoor.seals
