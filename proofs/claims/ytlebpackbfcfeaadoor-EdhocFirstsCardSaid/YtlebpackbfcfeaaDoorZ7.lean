/- squeezed. Proved: coreseclaw24.EdhocFirsts returns true for every input, and behind the call every argument reads as it read before. Conditions: none beyond the given card itself (the two listed tables of unicode/utf8 read as the text of the program lays them); no bound on sizes. -/
import Derived.Test.YtlebpackbfcfeaaDoorCards
import Derived.Test.YtlebpackbfcfeaaDoorTie
import Derived.Test.YtlebpackbfcfeaaDoorK51
import Derived.Test.YtlebpackbfcfeaaDoorK42
import Derived.Lib.LaidIn
import Derived.Lib.LaidU8T
import Derived.Deep.DeepHandedRow
import Derived.Deep.DeepWitnessRowRef
import Derived.ProofKit
import Derived.SizedLaws
set_option linter.unusedVariables false
set_option linter.unusedSimpArgs false
set_option maxRecDepth 100000
set_option maxHeartbeats 4000000
namespace Go.Proofs.YtlebpackbfcfeaaDoor.firsts
open Go.ChangeShapes Go.WideShapes Go.ChangeAt Go.RowKit Go.Lib Go.Shelf
def utfRen24 : Go.Shelf.Ren := ⟨fun n => n,
 fun | 5 => 5 | 119 => 122 | 138 => 124 | 139 => 125 | n => n,
 fun | 3 => 0 | 4 => 1 | n => n⟩
theorem utfTypes : U8Types Tryd.prog utfRen24 := ⟨Tryd.underlying5, Tryd.underlying122, Tryd.underlying124, Tryd.underlying125⟩
theorem laid_out : laidOutB Tryd.prog = true := by kernel_rfl
theorem own : ownKnob Tryd.prog.godebug = none := by kernel_rfl
noncomputable def laidWorld (os : Os) : World :=
 let w0 := World.holding Tryd.prog os ⟨#[], #[], []⟩
 let put (h : Array Obj) (g : Nat) (cs : Array Value) : Array Obj := h.modify g fun
  | .cells _ t frozen => .cells cs t frozen
  | o => o
 let h1 := put w0.heap 0 (Lib.firstTab.map fun z => Value.int .u8 z).toArray
 let h2 := put h1 1 ((List.range 16).flatMap fun i => [Value.int .u8 (Lib.accLo i), Value.int .u8 (Lib.accHi i)]).toArray
 { w0 with heap := h2 }
abbrev args0 : Array Value := #[.slice none 0 0, .agg #[.int .i64 0, .slice none 0 0, .slice none 0 0, .slice none 0 0, .slice none 0 0], .slice none 0 0, .int .i64 0, .int .i64 0]
theorem laid_met (os : Os) : laidMet Tryd.prog Rows.edhocFirstsRow.laid ((laidWorld os).forCall (fun _ _ => 0) ⟨#[], args0, []⟩).memory :=
 laidMet_of_run' 8 (by kernel_rfl) (by kernel_rfl)
theorem reads (os : Os) {H : Type} (enc : TypeId × Value → H) : ∃ places, DataW.whole enc Tryd.prog ((laidWorld os).forCall (fun _ _ => 0) ⟨#[], args0, []⟩).memory Tryd.f4.params.toList Rows.edhocFirstsSpec.vars false args0.toList 8 = some ([.nil, .agg [.lit (.int .i64 0), .nil, .nil, .nil, .nil], .nil, .lit (.int .i64 0), .lit (.int .i64 0)], [], places) :=
 ⟨[], by kernel_rfl⟩
theorem ints_arg {H : Type} {enc : TypeId × Value → H} {W : World} {a0 : Option Addr} {len cap : Nat} {d : DataW H} {p : List MemPlace} (h : DataW.Trod enc Tryd.prog W 0 (fun _ => true) true 22 (.slice a0 len cap) d p) :
  ∃ l : List Int, l.length = len ∧ IsInts (heapS W) a0 cap l := by
 obtain ⟨fuel, hf⟩ := h
 rcases open_ints Tryd.underlying22 Tryd.underlying3 (by kernel_rfl) hf with ⟨hcs, hx⟩ | ⟨a, len', cap', zs, hcs, _, hl, hm, hz, hx, hcell, hwz⟩
 ·simp [Value.cells] at hcs
  obtain ⟨rfl, rfl, rfl⟩ := hcs
  exact ⟨[], rfl, by simp, by omega, Row.nil _ _, by simp⟩
 ·simp [Value.cells] at hcs
  obtain ⟨rfl, rfl, rfl⟩ := hcs
  have h1 := ints_heap hl hm (by simp at hz; omega) hcell hwz
  exact ⟨_, h1.2, h1.1⟩
theorem bytes_arg {H : Type} {enc : TypeId × Value → H} {W : World} {a0 : Option Addr} {len cap : Nat} {d : DataW H} {p : List MemPlace} (h : DataW.Trod enc Tryd.prog W 0 (fun _ => true) true 24 (.slice a0 len cap) d p) :
  ∃ l : List UInt8, l.length = len ∧ IsBytes (heapS W) a0 cap l := by
 obtain ⟨fuel, hf⟩ := h
 rcases open_ints Tryd.underlying24 Tryd.underlying5 (by kernel_rfl) hf with ⟨hcs, hx⟩ | ⟨a, len', cap', zs, hcs, _, hl, hm, hz, hx, hcell, hwz⟩
 ·simp [Value.cells] at hcs
  obtain ⟨rfl, rfl, rfl⟩ := hcs
  exact ⟨[], rfl, IsBytes.nil _⟩
 ·simp [Value.cells] at hcs
  obtain ⟨rfl, rfl, rfl⟩ := hcs
  have h1 := bytes_heap hl hm (by simp at hz; omega) hcell hwz
  exact ⟨_, h1.2, h1.1⟩
theorem list5 {α : Type} {l : List α} (h : l.length = 5) : ∃ a b c d e, l = [a, b, c, d, e] := by
 match l, h with
 | [a, b, c, d, e], _ => exact ⟨a, b, c, d, e, rfl⟩
theorem ints_row {H : Snap} {A : Option Addr} {c : Nat} {l : List Int} (h : IsInts H A c l) : IsRow lieI H A c l := ⟨h.le, h.max, fun h0 => by
 obtain ⟨b, off, e, hc⟩ := h.row (by intro e; rw [List.map_eq_nil_iff] at e; subst e; simp at h0)
 exact ⟨b, off, _, e, rowC_ints l, hc⟩⟩
theorem ints_cell {H : Type} {enc : TypeId × Value → H} {W : World} {fuel : Nat} {c : Value} {x : DataW H × List MemPlace} (h : DataW.trod enc Tryd.prog W 0 (fun _ => true) true fuel 22 [c] = some x) :
  ∃ (A : Option Addr) (k : Nat) (l : List Int), c = .slice A l.length k ∧ IsRow lieI (heapS W) A k l := by
 rcases open_ints Tryd.underlying22 Tryd.underlying3 (by kernel_rfl) h with ⟨hcs, hx⟩ | ⟨a, len, cap, zs, hcs, _, hl, hm, hz, hx, hcell, hwz⟩
 ·simp at hcs
  exact ⟨none, 0, [], hcs, IsRow.nil _ _⟩
 ·simp at hcs
  have h1 := ints_heap hl hm (by simp at hz; omega) hcell hwz
  exact ⟨some a, cap, _, by rw [h1.2]; exact hcs, ints_row h1.1⟩
theorem exts_cell {H : Type} {enc : TypeId × Value → H} {W : World} {fuel : Nat} {c : Value} {x : DataW H × List MemPlace} (h : DataW.trod enc Tryd.prog W 0 (fun _ => true) true fuel 23 [c] = some x) :
  ∃ (A : Option Addr) (k : Nat) (l : List Ext), c = .slice A l.length k ∧ IsRow lieE (heapS W) A k l := by
 have h' := h
 rcases DataW.trod_slice Tryd.underlying23 h with ⟨e3, _⟩ | ⟨a, len', cap', elems, rest, n2, hn2, e3, _, _, hlc, hcm, hlen, hel, _, _⟩
 ·simp at e3
  exact ⟨none, 0, [], e3, IsRow.nil _ _⟩
 ·simp at e3
  subst e3
  obtain ⟨l, hl, hr⟩ := exts_arg (d := x.1) (p := x.2) ⟨fuel, h'⟩
  exact ⟨some a, cap', l, by rw [hl], hr⟩
theorem first_arg {H : Type} {enc : TypeId × Value → H} {W : World} {cs : Array Value} {d : DataW H} {p : List MemPlace} (h : DataW.Trod enc Tryd.prog W 0 (fun _ => true) true 44 (.agg cs) d p) :
  ∃ (f : First) (sa : Option Addr) (sc : Nat) (ga : Option Addr) (gc : Nat) (ca : Option Addr) (cc : Nat) (ea : Option Addr) (ec : Nat), cs = firstC f.method sa f.suites.length sc ga f.gx.length gc ca f.conn.length cc ea f.ext.length ec ∧ FirstA (heapS W) f sa sc ga gc ca cc ea ec := by
 have ci : Tryd.prog.cellsOf 3 = 1 := by kernel_rfl
 have cn : Tryd.prog.cellsOf 22 = 1 := by kernel_rfl
 have cb : Tryd.prog.cellsOf 24 = 1 := by kernel_rfl
 have ce : Tryd.prog.cellsOf 23 = 1 := by kernel_rfl
 have c5 : Tryd.prog.cellsOf 44 = 5 := by kernel_rfl
 obtain ⟨fuel, hf0⟩ := h
 obtain ⟨xs, n1, hn1, _, hl, hxl, hf⟩ := DataW.trod_struct Tryd.underlying44 hf0
 rw [c5] at hl
 simp only [Value.cells] at hf hl
 obtain ⟨L, hL⟩ : ∃ L, cs.toList = L := ⟨_, rfl⟩
 rw [hL] at hf hl
 obtain ⟨c0, c1, c2, c3, c4, rfl⟩ := list5 hl
 obtain ⟨y0, y1, y2, y3, y4, rfl⟩ := list5 (l := xs) (by rw [hxl]; rfl)
 have f0 := hf 0 _ rfl
 have f1 := hf 1 _ rfl
 have f2 := hf 2 _ rfl
 have f3 := hf 3 _ rfl
 have f4 := hf 4 _ rfl
 simp [ci] at f0
 simp [ci, cn] at f1
 simp [ci, cn, cb] at f2
 simp [ci, cn, cb] at f3
 simp [ci, cn, cb, ce] at f4
 obtain ⟨k, e0, _, w0⟩ := DataW.trod_int Tryd.underlying3 f0
 obtain ⟨sa, sc, su, rfl, hsu⟩ := ints_cell f1
 obtain ⟨ga, gc, gx, rfl, hgx⟩ := bytes_cell' f2
 obtain ⟨ca, cc, cn', rfl, hcn⟩ := bytes_cell' f3
 obtain ⟨ea, ec, ex, rfl, hex⟩ := exts_cell f4
 simp at e0
 subst e0
 exact ⟨⟨k, su, gx, cn', ex⟩, sa, sc, ga, gc, ca, cc, ea, ec, Array.ext' hL, ⟨hsu, hgx, hcn, hex⟩⟩
theorem first_is : Rows.laid_unicode_utf8_first = Lib.firstData := by kernel_rfl
theorem accept_is : (Rows.laid_unicode_utf8_acceptRanges : DataW Unit) = Lib.acceptData := by kernel_rfl
theorem tabs {W : World} (hL : laidMetH Tryd.prog Rows.edhocFirstsRow.laid W) : Tabs (heapS W) := by
 have h1 := Lib.laidMet.reads hL (.tail _ (.head _))
 have h2 := Lib.laidMet.reads hL (.head _)
 rw [first_is] at h1
 rw [accept_is] at h2
 exact heapS_tabs (utf8Tabs_of_readsT utfTypes ⟨by kernel_rfl, by kernel_rfl, by kernel_rfl, by kernel_rfl, by kernel_rfl, by kernel_rfl, by kernel_rfl⟩ h1 h2)
theorem contract (H : Type) (enc : TypeId × Value → H) (F : Stop.Interp) (W : World) (base : Nat) (args : Array Value) (ds gs : List (DataW H)) (before : List MemPlace)
  (hval : ∀ (j : Nat) t v, Tryd.f4.params[j]? = some t → args[j]? = some v → Value.okWide Tryd.prog W .any base t v)
  (hW : DataW.Whole enc Tryd.prog Tryd.f4.params.toList ((OpenSpec.ofChange Rows.edhocFirstsSpec).at F).vars false W args.toList ds gs before) (hL : laidMetH Tryd.prog Rows.edhocFirstsRow.laid W) :
  Calls Tryd.prog 4 args W fun e W' => ∃ v, e = .returned v ∧ ((OpenSpec.ofChange Rows.edhocFirstsSpec).at F).post enc Tryd.prog Tryd.f4 false true false false W args v W' := by
 have hW' := hW
 obtain ⟨p, q, hA0, hV, rfl, hfz, hnd⟩ := hW
 have hA : DataW.TrodAll enc Tryd.prog W 0 (fun _ => true) true Tryd.f4.params.toList args.toList ds p := hA0
 rw [Tryd.params4] at hA hval
 obtain ⟨v0, vs0, d0, ds0, p0, q0, hargs, rfl, rfl, h0, r0⟩ := trodAll_cons hA
 obtain ⟨v1, vs1, d1, ds1, p1, q1, rfl, rfl, rfl, h1, r1⟩ := trodAll_cons r0
 obtain ⟨v2, vs2, d2, ds2, p2, q2, rfl, rfl, rfl, h2, r2⟩ := trodAll_cons r1
 obtain ⟨v3, vs3, d3, ds3, p3, q3, rfl, rfl, rfl, h3, r3⟩ := trodAll_cons r2
 obtain ⟨v4, vs4, d4, ds4, p4, q4, rfl, rfl, rfl, h4, r4⟩ := trodAll_cons r3
 obtain ⟨rfl, rfl, rfl⟩ := trodAll_nil r4
 obtain rfl : args = #[v0, v1, v2, v3, v4] := by cases args; simp_all
 obtain ⟨rfl, rfl⟩ := trodVars_none hV
 obtain ⟨A0, n0, c0, rfl⟩ := okWide_slice Tryd.underlying22 (hval 0 _ v0 rfl rfl)
 obtain ⟨cs1, rfl, _⟩ := okWide_struct Tryd.underlying44 (hval 1 _ v1 rfl rfl)
 obtain ⟨A2, n2, c2, rfl⟩ := okWide_slice Tryd.underlying24 (hval 2 _ v2 rfl rfl)
 have h3k := h3
 have h4k := h4
 obtain ⟨m3, rfl, rfl, rfl, _⟩ := open_int Tryd.underlying3 (hval 3 _ v3 rfl rfl) h3
 obtain ⟨m4, rfl, rfl, rfl, _⟩ := open_int Tryd.underlying3 (hval 4 _ v4 rfl rfl) h4
 obtain ⟨l, rfl, hl⟩ := ints_arg h0
 obtain ⟨raw, sa, sc, ga, gc, ca, cc, ea, ec, rfl, hr⟩ := first_arg h1
 obtain ⟨x, rfl, hx⟩ := bytes_arg h2
 have hlt : ∀ z ∈ p0 ++ (p1 ++ (p2 ++ ([] ++ ([] ++ [])))) ++ [], z.block < W.heap.size := fun z hz => by simpa using hW'.lt z hz
 refine (law24_firsts (tabs hL) hl hr rfl rfl rfl rfl rfl hx m3 m4 W (heapS_holds W)).mono fun e W' ⟨he, bel⟩ => ?_
 subst he
 have st : ∀ {t : TypeId} {v : Value} {d : DataW H} {ps : List MemPlace}, DataW.Trod enc Tryd.prog W 0 (fun _ => true) true t v d ps → Tryd.prog.readableRec t = true → t < Tryd.prog.types.size → (∀ z ∈ ps, z ∈ p0 ++ (p1 ++ (p2 ++ ([] ++ ([] ++ [])))) ++ []) → DataW.Trod enc Tryd.prog W' 0 (fun b => decide (b < W.heap.size)) true t v d ps :=
  fun h hr hs hin => Below.trod laid_out hr hs h bel (fun z hz => hlt z (hin z hz))
 refine ⟨_, rfl, _, _, _, [], p0 ++ (p1 ++ (p2 ++ ([] ++ ([] ++ [])))), [], hW', ?_, ?_, ?_, bel.frame _, fun h => by cases h⟩
 ·exact trodAll_mk1 (shut_bool Tryd.underlying4 _)
 ·refine trodAll_cons_mk (st h0 (by kernel_rfl) (of_decide_eq_true (by kernel_rfl)) (fun z hz => by simp [hz])) (trodAll_cons_mk (st h1 (by kernel_rfl) (of_decide_eq_true (by kernel_rfl)) (fun z hz => by simp [hz])) (trodAll_cons_mk (st h2 (by kernel_rfl) (of_decide_eq_true (by kernel_rfl)) (fun z hz => by simp [hz]))
   (trodAll_cons_mk (st h3k (by kernel_rfl) (of_decide_eq_true (by kernel_rfl)) (fun z hz => by simp at hz)) (trodAll_cons_mk (st h4k (by kernel_rfl) (of_decide_eq_true (by kernel_rfl)) (fun z hz => by simp at hz)) trodAll_mk0))))
 ·rfl
theorem lifted (os : Os) (started : os.Started) (H : Type) (enc : TypeId × Value → H) (F : Stop.Interp) :
  ReturnsInHanded {} Tryd.checked os 4 .any ((OpenSpec.ofChange Rows.edhocFirstsSpec).preRow enc Tryd.prog Tryd.f4 Rows.edhocFirstsRow.domain false Rows.edhocFirstsRow.laid) (((OpenSpec.ofChange Rows.edhocFirstsSpec).at F).post enc Tryd.prog Tryd.f4 false true false false) := by
 obtain ⟨places, hx⟩ := reads os enc
 refine returnsInHanded_of_row (C := Tryd.checked) (s := OpenSpec.ofChange Rows.edhocFirstsSpec) own started (by kernel_rfl) Tryd.func4
  (witness_row_at (enc := enc) (C := Tryd.checked) false (laidWorld os) args0 rfl (by kernel_rfl) (by kernel_rfl) (by kernel_rfl)
   (OpenSpec.preRow_of_cond 8 hx (by kernel_rfl) (fun k hk => by cases hk) (by kernel_rfl) (laid_met os))) ?_
 intro W base args ds gs before hval hW _ _ _ hL _ _
 exact contract H enc F W base args ds gs before hval hW hL
theorem said : Rows.EdhocFirstsSaid :=
 OpenClaim.holds_of_cond 4 Tryd.f4 rfl rfl rfl rfl rfl rfl rfl ⟨rfl, rfl, rfl, rfl, rfl⟩ rfl rfl rfl rfl rfl (by kernel_rfl) Tryd.func4 (by kernel_rfl)
  (of_decide_eq_true (by kernel_rfl)) (by unfold Func.isWrapper; first | (rw [if_pos (by decide +kernel)]; kernel_rfl) | (rw [if_neg (by decide +kernel)]; exact ⟨rfl, rfl⟩))
  (fun os started H enc _ F => by rw [OpenClaim.pre_eq_preRow]; exact lifted os started H enc F)
theorem plain (f : FuncId) (fn : Func) (hf : Tryd.pinned.checked.prog.funcNamed "coresec/coreseclaw24.EdhocFirsts" = some f) (hfn : Tryd.pinned.checked.prog.funcs[f]? = some fn) :
  false = Tryd.pinned.checked.prog.looks [] ∧ ∀ (j : Nat) t, fn.params[j]? = some t → Tryd.pinned.checked.prog.wantsStandIn t = false := by
 obtain rfl : f = 4 := Option.some.inj ((show Tryd.prog.funcNamed "coresec/coreseclaw24.EdhocFirsts" = some 4 by kernel_rfl).symm.trans hf) |>.symm
 obtain rfl : fn = Tryd.f4 := (Option.some.inj (Tryd.func4.symm.trans hfn)).symm
 refine ⟨by kernel_rfl, fun j t ht => ?_⟩
 rw [Tryd.params4] at ht
 have hm := Array.mem_of_getElem? ht
 simp at hm
 rcases hm with rfl | rfl | rfl | rfl
 ·exact (show Tryd.prog.wantsStandIn 22 = false by kernel_rfl)
 ·exact (show Tryd.prog.wantsStandIn 44 = false by kernel_rfl)
 ·exact (show Tryd.prog.wantsStandIn 24 = false by kernel_rfl)
 ·exact (show Tryd.prog.wantsStandIn 3 = false by kernel_rfl)
theorem card : Rows.EdhocFirstsCardSaid :=
 Claim7.holds_tied_plain_at .later [] _ _ _ _ said (fun _ h => by cases h) (by kernel_rfl) (fun _ h => by cases h) edhocFirsts_row_tie rfl ⟨rfl, rfl⟩ (by kernel_rfl) rfl plain (by kernel_rfl)
end Go.Proofs.YtlebpackbfcfeaaDoor.firsts
