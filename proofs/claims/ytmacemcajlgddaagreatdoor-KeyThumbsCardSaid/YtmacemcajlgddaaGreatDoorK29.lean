/- squeezed. Walks: the item of a key and its e -/
import Derived.Test.YtmacemcajlgddaaGreatDoorK03
import Derived.Test.YtmacemcajlgddaaGreatDoorK18
import Derived.Test.YtmacemcajlgddaaGreatDoorK28
import Derived.Test.YtmacemcajlgddaaGreatDoorK20
import Derived.Test.YtmacemcajlgddaaGreatDoorK24
import Derived.Test.YtmacemcajlgddaaGreatDoorK13
import Derived.Test.YtmacemcajlgddaaGreatDoorK01
import Derived.Test.YtmacemcajlgddaaGreatDoorK22
import Derived.ChangeSlices
import Derived.OpenShut
import Derived.Test.YtmacemcajlgddaaGreatDoorK09
import Derived.Test.YtmacemcajlgddaaGreatDoorK00
import Derived.Test.YtmacemcajlgddaaGreatDoorK05
import Derived.Test.YtmacemcajlgddaaGreatDoorK10
import Derived.Test.YtmacemcajlgddaaGreatDoorK23
import Derived.Test.YtmacemcajlgddaaGreatDoorK08
import Derived.Test.YtmacemcajlgddaaGreatDoorK17
import Derived.Test.YtmacemcajlgddaaGreatDoorK04
import Derived.Test.YtmacemcajlgddaaGreatDoorK06
import Derived.Test.YtmacemcajlgddaaGreatDoorK25
import Derived.Deep.Matrix
set_option linter.unusedVariables false
set_option linter.unusedSimpArgs false
set_option maxRecDepth 100000
set_option maxHeartbeats 12800000
namespace Go.Proofs.YtmacemcajlgddaaGreatDoor
open Go.RowKit
structure KAd where
 ia : Option Addr
 ic : Nat
 xa : Option Addr
 xc : Nat
 da : Option Addr
 dc : Nat
 ka : Option Addr
 kc : Nat
abbrev keyQ (q : Ky) (a : KAd) : Array Value := keyC q.kty q.crv q.alg a.ia q.kid.length a.ic a.xa q.x.length a.xc a.da q.d.length a.dc a.ka q.k.length a.kc
structure KeyA (H : Snap) (q : Ky) (a : KAd) : Prop where
 kty : -9223372036854775808 ≤ q.kty ∧ q.kty ≤ 9223372036854775807
 crv : -9223372036854775808 ≤ q.crv ∧ q.crv ≤ 9223372036854775807
 alg : -9223372036854775808 ≤ q.alg ∧ q.alg ≤ 9223372036854775807
 kid : IsBytes H a.ia a.ic q.kid
 x : IsBytes H a.xa a.xc q.x
 d : IsBytes H a.da a.dc q.d
 k : IsBytes H a.ka a.kc q.k
theorem KeyA.mono {H K : Snap} {q : Ky} {a : KAd} (h : KeyA H q a) (hl : H.le K) : KeyA K q a := ⟨h.kty, h.crv, h.alg, h.kid.mono hl, h.x.mono hl, h.d.mono hl, h.k.mono hl⟩
theorem KeyA.len {H : Snap} {q : Ky} {a : KAd} (h : KeyA H q a) : q.x.length ≤ 9223372036854775807 ∧ q.d.length ≤ 9223372036854775807 := ⟨Nat.le_trans h.x.le h.x.max, Nat.le_trans h.d.le h.d.max⟩
theorem validN_eq (q : Ky) : validN q.kty q.crv q.alg q.kid.length q.x.length q.d.length q.k.length = validK q := rfl
theorem pairsL_eq (q : Ky) : pairsL q.kty q.crv q.alg q.kid q.x q.d q.k = pairsK q := rfl
def codeK (q : Ky) : Int := if validK q = true then 0 else 1
def itmK (q : Ky) : Itm := if validK q = true then itemK q else zeroItm
def ToOut (w : World) (H : Snap) (q : Ky) (e : Ending) (w' : World) : Prop := ∃ v, e = .returned (.tuple #[v, .int .i64 (codeK q)]) ∧ Gives w H (itmK q) v w'
def EncOut (w : World) (q : Ky) (e : Ending) (w' : World) : Prop := ∃ r l, e = .returned (.tuple #[r, .int .i64 (codeK q)]) ∧ Fresh w l r w' ∧ l = if validK q = true then encB (itemK q) else []
theorem validK_len {q : Ky} (h : validK q = true) : q.kid.length ≤ 64 ∧ q.x.length ≤ 64 ∧ q.d.length ≤ 64 ∧ q.k.length ≤ 64 := by
 have := (validK_iff q).1 h
 omega
theorem validK_k {q : Ky} (h : validK q = true) (h4 : q.kty = 4) : 0 < q.k.length := by
 have := (validK_iff q).1 h
 omega
theorem pairsK_len4 {q : Ky} (h : validK q = true) : 4 ≤ (pairsK q).length := by
 have h1 := (validK_iff q).1 h
 by_cases h4 : q.kty = 4
 ·have hk : 0 < q.k.length := validK_k h h4
  simp only [pairsK, if_pos h4]
  rw [show optS (-1) q.k = [intP (-1), strI q.k] from if_pos hk]
  simp only [List.length_append, List.length_cons, List.length_nil]
  omega
 ·simp only [pairsK, if_neg h4]
  simp only [List.length_append, List.length_cons, List.length_nil]
  omega
theorem IsRowI.of {H : Snap} {A : Option Addr} {c : Nat} {l : List Itm} (h : l.length ≤ c ∧ c ≤ 9223372036854775807 ∧ (0 < l.length → ∃ b off, A = some ⟨b, off, none⟩ ∧ IsElems H b off l)) : IsRowI H A c l := ⟨h.1, h.2.1, h.2.2⟩
theorem key_ToItem {H : Snap} (hTab : Tabs H) {q : Ky} {a : KAd} (hq : KeyA H q a) (w : World) (hH : Holds w H) :
  Calls Tryz.prog 28 #[.agg (keyQ q a)] w (ToOut w H q) := by
 have hB1 := (Blk.new w 24 (keyQ q a)).alloc (.cells zeroC 54);have hT := Blk.new (w.alloc (.cells (keyQ q a) 24)) 54 zeroC;rw [size_alloc] at hT;have hTn : H (w.heap.size + 1) = none := hH.none_of_ge (by omega);have hG1 := ((Grows.refl hH).alloc (.cells (keyQ q a) 24)).alloc (.cells zeroC 54);have V := Hh (fun W => key_ValidN q.kty q.crv q.alg a.ia q.kid.length a.ic a.xa q.x.length a.xc a.da q.d.length a.dc a.ka q.k.length a.kc W hq.len.1 hq.len.2);have HQ := Hh hq;have c0 := hB1.cell 0 rfl;have c1 := hB1.cell 1 rfl;have c2 := hB1.cell 2 rfl;have c3 := hB1.cell 3 rfl;have c4 := hB1.cell 4 rfl;have c5 := hB1.cell 5 rfl;have c6 := hB1.cell 6 rfl;clear hq hH;go_enter Tryz.func28, Tryz.ntmps28
 go_wp2_with fail
 refine (V.out _).mono ?_
 rintro e w3 ⟨rfl, hb3⟩
 rw [validN_eq];replace hT := hT.below hb3;replace hB1 := hB1.below hb3;have hG3 := hG1.below_ hb3;clear hG1 hb3 V c0 c1 c2 c3 c4 c5 c6;have c0 := hB1.cell 0 rfl;have c1 := hB1.cell 1 rfl;have c2 := hB1.cell 2 rfl;have c3 := hB1.cell 3 rfl;have c4 := hB1.cell 4 rfl;have c5 := hB1.cell 5 rfl;have c6 := hB1.cell 6 rfl;clear hB1
 cases hv : validK q with
 | false =>
  have E : Hid (codeK q = 1 ∧ itmK q = zeroItm) := ⟨by rw [codeK, if_neg (by rw [hv]; simp)], by rw [itmK, if_neg (by rw [hv]; simp)]⟩
  clear hv;go_wp2_with (with_reducible refine stop_store ?_)
  refine stI hT fun w9 hT9 hg9 => ?_
  have hG9 := hG3.grownOwn hTn (by omega) hg9;go_wp2_with fail
  refine ret_row_tmp rfl rfl hT9 rfl rfl size_item rfl ?_
  exact ⟨_, by rw [E.out.1]; rfl, by rw [E.out.2]; exact ⟨none, 0, none, 0, H, rfl, hG9, IsItem.plain H 0 0 (by omega) (by omega)⟩⟩
 | true =>
  have E : Hid (codeK q = 0 ∧ itmK q = .mk 5 0 [] (pairsK q)) := ⟨by rw [codeK, if_pos hv], by rw [itmK, if_pos hv]; rfl⟩
  have HV := Hh hv;clear hv;go_wp2_with fail
  refine (key_pairs q.kty q.crv q.alg HQ.out.kty HQ.out.crv HQ.out.alg HQ.out.kid HQ.out.x HQ.out.d HQ.out.k (validK_len HV.out) _ hG3.holds).mono ?_
  rintro e w4 ⟨v4, rfl, A4, c9, H4, rfl, hG4, hr4⟩
  rw [pairsL_eq] at hr4 ⊢;have hG5 := hG3.trans hG4;have hTn4 := hG4.none hTn hT.lt;replace hT := hT.below hG4.below;have HR4 := Hh (IsRowI.of hr4);have HB := Hh (cbor_Build (hTab.mono hG5.le) HR4.out (pairsK_even q) (pairsK_len4 HV.out) (by have := (pairsK_len q).2; omega) (asc_pairsK q) (validP_pairsK HV.out) (validP_itemK HV.out) w4 hG5.holds);clear hG4 hr4 hG3 c0 c1 c2 c3 c4 c5 c6;go_wp2_with fail
  refine HB.out.mono ?_
  rintro e w6 ⟨v6, rfl, xa, xb, xc, xd, H6, rfl, hG6, hI6⟩
  have hG7 := hG5.trans hG6;have hTn6 := hG6.none hTn4 hT.lt;replace hT := hT.below hG6.below;clear hG6 hG5 HB;go_wp2_with (with_reducible refine stop_store ?_)
  refine stI hT fun w9 hT9 hg9 => ?_
  have hG9 := hG7.grownOwn hTn6 (by omega) hg9;go_wp2_with fail
  refine ret_row_tmp rfl rfl hT9 rfl rfl size_item rfl ?_
  exact ⟨_, by rw [E.out.1]; rfl, by rw [E.out.2]; exact ⟨xa, xb, xc, xd, H6, rfl, hG9, hI6⟩⟩
theorem ref11_ToItem {H : Snap} (hTab : Tabs H) {q : Ky} {a : KAd} (hq : KeyA H q a) (w : World) (hH : Holds w H) :
  Calls Tryz.prog 33 #[.agg (keyQ q a)] w (ToOut w H q) := by
 have hB1 := (Blk.new w 24 (keyQ q a)).alloc (.cells zeroC 54);have hT := Blk.new (w.alloc (.cells (keyQ q a) 24)) 54 zeroC;rw [size_alloc] at hT;have hTn : H (w.heap.size + 1) = none := hH.none_of_ge (by omega);have hG1 := ((Grows.refl hH).alloc (.cells (keyQ q a) 24)).alloc (.cells zeroC 54);have V := Hh (fun W => ref_ValidN q.kty q.crv q.alg a.ia q.kid.length a.ic a.xa q.x.length a.xc a.da q.d.length a.dc a.ka q.k.length a.kc W hq.len.1 hq.len.2);have HQ := Hh hq;have c0 := hB1.cell 0 rfl;have c1 := hB1.cell 1 rfl;have c2 := hB1.cell 2 rfl;have c3 := hB1.cell 3 rfl;have c4 := hB1.cell 4 rfl;have c5 := hB1.cell 5 rfl;have c6 := hB1.cell 6 rfl;clear hq hH;go_enter Tryz.func33, Tryz.ntmps33
 go_wp2_with fail
 refine (V.out _).mono ?_
 rintro e w3 ⟨rfl, hb3⟩
 rw [validN_eq];replace hT := hT.below hb3;replace hB1 := hB1.below hb3;have hG3 := hG1.below_ hb3;clear hG1 hb3 V c0 c1 c2 c3 c4 c5 c6;have c0 := hB1.cell 0 rfl;have c1 := hB1.cell 1 rfl;have c2 := hB1.cell 2 rfl;have c3 := hB1.cell 3 rfl;have c4 := hB1.cell 4 rfl;have c5 := hB1.cell 5 rfl;have c6 := hB1.cell 6 rfl;clear hB1
 cases hv : validK q with
 | false =>
  have E : Hid (codeK q = 1 ∧ itmK q = zeroItm) := ⟨by rw [codeK, if_neg (by rw [hv]; simp)], by rw [itmK, if_neg (by rw [hv]; simp)]⟩
  clear hv;go_wp2_with (with_reducible refine stop_store ?_)
  refine stI hT fun w9 hT9 hg9 => ?_
  have hG9 := hG3.grownOwn hTn (by omega) hg9;go_wp2_with fail
  refine ret_row_tmp rfl rfl hT9 rfl rfl size_item rfl ?_
  exact ⟨_, by rw [E.out.1]; rfl, by rw [E.out.2]; exact ⟨none, 0, none, 0, H, rfl, hG9, IsItem.plain H 0 0 (by omega) (by omega)⟩⟩
 | true =>
  have E : Hid (codeK q = 0 ∧ itmK q = .mk 5 0 [] (pairsK q)) := ⟨by rw [codeK, if_pos hv], by rw [itmK, if_pos hv]; rfl⟩
  have HV := Hh hv;clear hv;go_wp2_with fail
  refine (ref11_pairs q.kty q.crv q.alg HQ.out.kty HQ.out.crv HQ.out.alg HQ.out.kid HQ.out.x HQ.out.d HQ.out.k (validK_len HV.out) (validK_k HV.out) _ hG3.holds).mono ?_
  rintro e w4 ⟨v4, rfl, A4, c9, H4, rfl, hG4, hr4⟩
  rw [pairsL_eq] at hr4 ⊢;have hG5 := hG3.trans hG4;have hTn4 := hG4.none hTn hT.lt;replace hT := hT.below hG4.below;have HR4 := Hh (IsRowI.of hr4);have HB := Hh (ref_Build2 (hTab.mono hG5.le) HR4.out (by have := (pairsK_len q).2; omega) w4 hG5.holds);clear hG4 hr4 hG3 c0 c1 c2 c3 c4 c5 c6;go_wp2_with fail
  refine HB.out.mono ?_
  rintro e w6 ⟨v6, h6⟩
  have h6' : ∃ xa xb xc xd H6, e = .returned (.tuple #[itemV (.mk 5 0 [] (pairsK q)) xa xb xc xd, .int .i64 0]) ∧ Grows w4 H4 w6 H6 ∧ IsItem H6 xa xb xc xd (.mk 5 0 [] (pairsK q)) := by
   rcases h6 with ⟨l, rfl, ⟨xa, xb, xc, xd, H6, rfl, hG6, hI6⟩, _, _, hl⟩ | ⟨_, _, _, _, hno⟩
   ·obtain rfl := hl (buildK HV.out).2.1
    exact ⟨xa, xb, xc, xd, H6, rfl, hG6, hI6⟩
   ·exact absurd (buildK HV.out) hno
  clear h6;obtain ⟨xa, xb, xc, xd, H6, rfl, hG6, hI6⟩ := h6';have hG7 := hG5.trans hG6;have hTn6 := hG6.none hTn4 hT.lt;replace hT := hT.below hG6.below;clear hG6 hG5 HB;go_wp2_with (with_reducible refine stop_store ?_)
  refine stI hT fun w9 hT9 hg9 => ?_
  have hG9 := hG7.grownOwn hTn6 (by omega) hg9;go_wp2_with fail
  refine ret_row_tmp rfl rfl hT9 rfl rfl size_item rfl ?_
  exact ⟨_, by rw [E.out.1]; rfl, by rw [E.out.2]; exact ⟨xa, xb, xc, xd, H6, rfl, hG9, hI6⟩⟩
theorem key_Encode {H : Snap} (hTab : Tabs H) {q : Ky} {a : KAd} (hq : KeyA H q a) (w : World) (hH : Holds w H) :
  Calls Tryz.prog 23 #[.agg (keyQ q a)] w (EncOut w q) := by
 have hG1 := (Grows.refl hH).alloc (.cells (keyQ q a) 24);have hB1 := Blk.new w 24 (keyQ q a);have TI := Hh (fun W hW => key_ToItem hTab hq W hW);have c0 := hB1.cell 0 rfl;have c1 := hB1.cell 1 rfl;have c2 := hB1.cell 2 rfl;have c3 := hB1.cell 3 rfl;have c4 := hB1.cell 4 rfl;have c5 := hB1.cell 5 rfl;have c6 := hB1.cell 6 rfl;clear hq hB1 hH;go_enter Tryz.func23, Tryz.ntmps23
 go_wp2_with fail
 refine (TI.out _ hG1.holds).mono ?_
 rintro e w3 ⟨v3, rfl, xa, xb, xc, xd, H3, rfl, hG3, hI3⟩
 have hG4 := hG1.trans hG3;clear hG1 hG3 TI c0 c1 c2 c3 c4 c5 c6
 cases hv : validK q with
 | false =>
  have E : Hid (codeK q = 1) := by rw [Hid, codeK, if_neg (by rw [hv]; simp)]
  have HV := Hh hv;rw [E.out];clear hv;go_wp2_with fail
  go_ret2
  exact ⟨_, [], by rw [E.out]; rfl, ⟨OwnB.nil _ _, by first | exact hG4.below | exact (hG4.alloc _).below⟩, by rw [HV.out]; rfl⟩
 | true =>
  have E : Hid (codeK q = 0) := by rw [Hid, codeK, if_pos hv]
  have E2 : Hid (itmK q = itemK q) := by rw [Hid, itmK, if_pos hv]
  have HV := Hh hv;rw [E.out];rw [E2.out] at hI3 ⊢;obtain ⟨x, hx⟩ : ∃ x, itemK q = x := ⟨_, rfl⟩
  have HX := Hh hx;have HVP := Hh (validP_itemK HV.out);rw [hx] at hI3 ⊢;rw [HX.out] at HVP;have EN := Hh (fun W (hW : Holds W H3) => cbor_Encode (hTab.mono hG4.le) hI3.arg W hW);have hG5 := hG4.alloc (itemO x xa xb xc xd);clear hv hx;go_wp2_with fail
  refine (EN.out _ hG5.holds).mono ?_
  rintro e w5 (⟨hno, _⟩ | ⟨_, r5, rfl, hf5⟩)
  ·rw [HVP.out] at hno; cases hno
  ·have hb := hG5.below.trans (hf5.2.mono hG5.size);have ho := hf5.own.more (base' := w.heap.size) hG5.size;clear hf5 hG5 hG4 hI3 EN;go_wp2_with fail
   go_ret2
   exact ⟨_, encB x, by rw [E.out]; rfl, ⟨ho, hb⟩, by rw [HV.out, HX.out]; rfl⟩
theorem ref11_Encode {H : Snap} (hTab : Tabs H) {q : Ky} {a : KAd} (hq : KeyA H q a) (w : World) (hH : Holds w H) :
  Calls Tryz.prog 25 #[.agg (keyQ q a)] w (EncOut w q) := by
 have hG1 := (Grows.refl hH).alloc (.cells (keyQ q a) 24);have hB1 := Blk.new w 24 (keyQ q a);have TI := Hh (fun W hW => ref11_ToItem hTab hq W hW);have c0 := hB1.cell 0 rfl;have c1 := hB1.cell 1 rfl;have c2 := hB1.cell 2 rfl;have c3 := hB1.cell 3 rfl;have c4 := hB1.cell 4 rfl;have c5 := hB1.cell 5 rfl;have c6 := hB1.cell 6 rfl;clear hq hB1 hH;go_enter Tryz.func25, Tryz.ntmps25
 go_wp2_with fail
 refine (TI.out _ hG1.holds).mono ?_
 rintro e w3 ⟨v3, rfl, xa, xb, xc, xd, H3, rfl, hG3, hI3⟩
 have hG4 := hG1.trans hG3;clear hG1 hG3 TI c0 c1 c2 c3 c4 c5 c6
 cases hv : validK q with
 | false =>
  have E : Hid (codeK q = 1) := by rw [Hid, codeK, if_neg (by rw [hv]; simp)]
  have HV := Hh hv;rw [E.out];clear hv;go_wp2_with fail
  go_ret2
  exact ⟨_, [], by rw [E.out]; rfl, ⟨OwnB.nil _ _, by first | exact hG4.below | exact (hG4.alloc _).below⟩, by rw [HV.out]; rfl⟩
 | true =>
  have E : Hid (codeK q = 0) := by rw [Hid, codeK, if_pos hv]
  have E2 : Hid (itmK q = itemK q) := by rw [Hid, itmK, if_pos hv]
  have HV := Hh hv;rw [E.out];rw [E2.out] at hI3 ⊢;obtain ⟨x, hx⟩ : ∃ x, itemK q = x := ⟨_, rfl⟩
  have HX := Hh hx;have HVP := Hh (validP_itemK HV.out);rw [hx] at hI3 ⊢;rw [HX.out] at HVP;have EN := Hh (fun W (hW : Holds W H3) => ref_Encode (hTab.mono hG4.le) hI3.arg W hW);have hG5 := hG4.alloc (itemO x xa xb xc xd);clear hv hx;go_wp2_with fail
  refine (EN.out _ hG5.holds).mono ?_
  rintro e w5 (⟨hno, _⟩ | ⟨_, r5, rfl, hf5⟩)
  ·rw [HVP.out] at hno; cases hno
  ·have hb := hG5.below.trans (hf5.2.mono hG5.size);have ho := hf5.own.more (base' := w.heap.size) hG5.size;clear hf5 hG5 hG4 hI3 EN;go_wp2_with fail
   go_ret2
   exact ⟨_, encB x, by rw [E.out]; rfl, ⟨ho, hb⟩, by rw [HV.out, HX.out]; rfl⟩
end Go.Proofs.YtmacemcajlgddaaGreatDoor
namespace Go.Proofs.YtmacemcajlgddaaGreatDoor
open Go.RowKit
theorem ref11_Same {H : Snap} {q : Ky} {a b : KAd} (ha : KeyA H q a) (hb : KeyA H q b) (w : World) (hH : Holds w H) :
  Calls Tryz.prog 12 #[.agg (keyQ q a), .agg (keyQ q b)] w fun e w' => e = .returned (.bool true) ∧ Below w.heap.size w w' := by
 have hX := (Blk.new w 24 (keyQ q a)).alloc (.cells (keyQ q b) 24);have hY := Blk.new (w.alloc (.cells (keyQ q a) 24)) 24 (keyQ q b);rw [size_alloc] at hY;have hbb := (below_box w (.cells (keyQ q a) 24)).alloc (below_box w (.cells (keyQ q a) 24)).size (.cells (keyQ q b) 24);have hh := (hH.alloc (.cells (keyQ q a) 24)).alloc (.cells (keyQ q b) 24);have x0 := hX.cell 0 rfl;have x1 := hX.cell 1 rfl;have x2 := hX.cell 2 rfl;have x3 := hX.cell 3 rfl;have x4 := hX.cell 4 rfl;have x5 := hX.cell 5 rfl;have x6 := hX.cell 6 rfl;have y0 := hY.cell 0 rfl;have y1 := hY.cell 1 rfl;have y2 := hY.cell 2 rfl;have y3 := hY.cell 3 rfl;have y4 := hY.cell 4 rfl;have y5 := hY.cell 5 rfl;have y6 := hY.cell 6 rfl;have k1 := conv_bytes (Src.of_row ha.kid.row hh) _ a.ic rfl;have k2 := conv_bytes (Src.of_row hb.kid.row hh) _ b.ic rfl;have k3 := conv_bytes (Src.of_row ha.x.row hh) _ a.xc rfl;have k4 := conv_bytes (Src.of_row hb.x.row hh) _ b.xc rfl
 have k5 := conv_bytes (Src.of_row ha.d.row hh) _ a.dc rfl;have k6 := conv_bytes (Src.of_row hb.d.row hh) _ b.dc rfl;have k7 := conv_bytes (Src.of_row ha.k.row hh) _ a.kc rfl;have k8 := conv_bytes (Src.of_row hb.k.row hh) _ b.kc rfl;clear hX hY ha hb hh hH;go_enter Tryz.func12, Tryz.ntmps12
 go_wp2_with fail
 go_ret
 exact ⟨rfl, hbb⟩
end Go.Proofs.YtmacemcajlgddaaGreatDoor
namespace Go.Proofs.YtmacemcajlgddaaGreatDoor
open Go.RowKit
def heapS (W : World) : Snap := fun b => W.heap[b]?
theorem heapS_cell (W : World) (a : Addr) : (heapS W).cell? a = W.cell? a := rfl
theorem heapS_holds (W : World) : Holds W (heapS W) := fun _ _ h => h
theorem heapS_tabs {W : World} (h : Lib.Utf8Tabs 2 3 W) : Tabs (heapS W) := fun _ hw =>
 ⟨fun c hc => hw.cell (h.1 c hc), fun i hi => ⟨hw.cell (h.2 i hi).1, hw.cell (h.2 i hi).2⟩⟩
theorem wf_i64_bnd {n : Int} (h : (Lit.int .i64 n).wf = true) : -9223372036854775808 ≤ n ∧ n ≤ 9223372036854775807 := by
 simp [Lit.wf, IntKind.min, IntKind.max, IntKind.signed, IntKind.bits] at h
 omega
theorem wf_u8_bnd {n : Int} (h : (Lit.int .u8 n).wf = true) : 0 ≤ n ∧ n < 256 := by
 simp [Lit.wf, IntKind.min, IntKind.max, IntKind.signed, IntKind.bits] at h
 omega
theorem ints_heap {W : World} {a : Addr} {len cap : Nat} {zs : List Int} (hl : len ≤ cap) (hm : cap ≤ maxLen) (hz : len ≤ zs.length)
  (hc : ∀ i, i < zs.length → W.cell? (a.add i) = some (.int .i64 (zs.getD i 0))) (wf : ∀ n ∈ zs, (Lit.int .i64 n).wf = true) : IsInts (heapS W) (some a) cap (zs.take len) ∧ (zs.take len).length = len := by
 have hlen : (zs.take len).length = len := by rw [List.length_take]; omega
 refine ⟨⟨by rw [hlen]; exact hl, by simpa [maxLen] using hm, fun hne => ?_, fun x hx => wf_i64_bnd (wf x (List.mem_of_mem_take hx))⟩, hlen⟩
 have h0 : 0 < len := by
  rcases Nat.eq_zero_or_pos len with h | h
  ·subst h; simp at hne
  ·exact h
 obtain ⟨b, off, rfl, hcell⟩ := ints_at hc (by omega)
 refine ⟨b, off, rfl, fun j v hj => ?_⟩
 rw [List.getElem?_map] at hj;obtain ⟨x, hx, rfl⟩ := Option.map_eq_some_iff.1 hj;have hjl := (List.getElem?_eq_some_iff.1 hx).1;rw [hlen] at hjl;rw [heapS_cell, hcell j (by omega)];rw [List.getElem?_take, if_pos hjl] at hx
 simp [List.getD, hx]
def bytesOfInts (zs : List Int) : List UInt8 := zs.map fun n => u8 n.toNat
theorem bytes_heap {W : World} {a : Addr} {len cap : Nat} {zs : List Int} (hl : len ≤ cap) (hm : cap ≤ maxLen) (hz : len ≤ zs.length)
  (hc : ∀ i, i < zs.length → W.cell? (a.add i) = some (.int .u8 (zs.getD i 0))) (wf : ∀ n ∈ zs, (Lit.int .u8 n).wf = true) : IsBytes (heapS W) (some a) cap (bytesOfInts (zs.take len)) ∧ (bytesOfInts (zs.take len)).length = len := by
 have hlen : (bytesOfInts (zs.take len)).length = len := by rw [bytesOfInts, List.length_map, List.length_take]; omega
 refine ⟨⟨by rw [hlen]; exact hl, by simpa [maxLen] using hm, fun hne => ?_⟩, hlen⟩
 have h0 : 0 < len := by
  rcases Nat.eq_zero_or_pos len with h | h
  ·subst h; simp [bytesOfInts] at hne
  ·exact h
 obtain ⟨b, off, rfl, hcell⟩ := ints_at hc (by omega)
 refine ⟨b, off, rfl, fun j v hj => ?_⟩
 rw [bytesOfInts, List.map_map, List.getElem?_map] at hj;obtain ⟨x, hx, rfl⟩ := Option.map_eq_some_iff.1 hj;rw [List.getElem?_take] at hx
 split at hx
 ·rename_i hjl
  have hb := wf_u8_bnd (wf x (List.mem_of_getElem? hx));rw [heapS_cell, hcell j (by omega)]
  simp [List.getD, hx, byteV, u8_toNat]
  omega
 ·cases hx
end Go.Proofs.YtmacemcajlgddaaGreatDoor
namespace Go.Proofs.YtmacemcajlgddaaGreatDoor
open Go.RowKit
def bytesE (b : List UInt8) : Except Nat (List UInt8 × Nat) :=
 match prefixP b with
 | .err e => .error e
 | .ok x k _ => if x.kind ≠ 2 ∨ x.bytes.length < 1 ∨ 64 < x.bytes.length then .error 4 else .ok (x.bytes, k)
def d4 (m : Int) (su : List Int) (gx cn : List UInt8) (b : List UInt8) : Except Nat First :=
 match decExt b with
 | .error e => .error e
 | .ok ext => .ok ⟨m, su, gx, cn, ext⟩
def d3 (m : Int) (su : List Int) (gx : List UInt8) (b : List UInt8) : Except Nat First :=
 match parseConn b with
 | .error e => .error e
 | .ok (c, k4) => d4 m su gx c (b.drop k4)
def d2 (m : Int) (su : List Int) (b : List UInt8) : Except Nat First :=
 match bytesE b with
 | .error e => .error e
 | .ok (gx, k3) => d3 m su gx (b.drop k3)
def d1 (m : Int) (b : List UInt8) : Except Nat First :=
 match prefixP b with
 | .err e => .error e
 | .ok y k2 _ => match suitesE y with
  | .error e => .error e
  | .ok l => d2 m l (b.drop k2)
end Go.Proofs.YtmacemcajlgddaaGreatDoor
namespace Go.Proofs.YtmacemcajlgddaaGreatDoor
open Go.RowKit
theorem Grows.trans_but {w w' w'' : World} {H H' H'' : Snap} {g : Nat} (h : Grows w H w' H') (k : GrowsBut w' H' w'' H'' g) (hg : w.heap.size ≤ g) : Grows w H w'' H'' := by
 refine ⟨below_of_grown h.below k.grown (by rintro q ⟨⟩; exact hg), h.le.trans k.le, k.holds, fun x o hx => ?_⟩
 rcases k.fresh x o hx with hx | hx
 ·exact h.fresh x o hx
 ·exact .inr (Nat.le_trans h.below.size hx)
end Go.Proofs.YtmacemcajlgddaaGreatDoor
namespace Go.Proofs.YtmacemcajlgddaaGreatDoor
open Go.RowKit
theorem Grows.snap {w w' : World} {H H' H'' : Snap} {A : Option Addr} (h : Grows w H w' H') (hl : H'.le H'') (hh : Holds w' H'') (hf : ∀ b o, H'' b = some o → H' b = some o ∨ A.map (·.block) = some b)
  (hA : ∀ q, A.map (·.block) = some q → w.heap.size ≤ q) : Grows w H w' H'' :=
 ⟨h.below, h.le.trans hl, hh, fun b o hb => by
  rcases hf b o hb with h1 | h1
  ·exact h.fresh b o h1
  ·exact .inr (hA _ h1)⟩
end Go.Proofs.YtmacemcajlgddaaGreatDoor
namespace Go.Proofs.YtmacemcajlgddaaGreatDoor
open Go.RowKit
theorem OwnX.lit {α : Type} {L : Lie α} {H : Snap} {cs : List Value} {l : List α} (hc : RowC L H cs l) (t : TypeId) (w : World) (base : Nat) (hb : base ≤ w.heap.size) (hm : l.length ≤ 4096) :
  OwnX L t (w.alloc (.cells cs.toArray t)) base (.slice (some ⟨w.heap.size, 0, none⟩) l.length l.length) H l :=
 ⟨cs, hc, hc.len, .inr ⟨w.heap.size, l.length, cs.toArray, rfl, hb, heap_alloc_new w _, Nat.le_refl _, by simp only [maxLen]; omega, by simp [hc.len], by rw [← hc.len]; simp⟩⟩
theorem lit_row {α : Type} {L : Lie α} {w wr : World} {H Hr : Snap} {cs : List Value} {l : List α} (hG : Grows w H wr Hr) (hc : RowC L Hr cs l) (t : TypeId) (hm : l.length ≤ 4096) :
  ∃ H', Grows w H (wr.alloc (.cells cs.toArray t)) H' ∧ Hr.le H' ∧ IsRow L H' (some ⟨wr.heap.size, 0, none⟩) l.length l := by
 have hO := OwnX.lit hc t wr wr.heap.size (Nat.le_refl _) hm;have hG' := hG.alloc (.cells cs.toArray t);obtain ⟨H', hl, hh, hf, _, hr⟩ := hO.snap hG'.holds (fun q hq => by cases hq; exact hG.holds.none_of_ge (Nat.le_refl _))
 exact ⟨H', hG'.snap hl hh hf (fun q hq => by cases hq; exact hG.size), hl, hr⟩
theorem lit_bytes {w wr : World} {H Hr : Snap} (hG : Grows w H wr Hr) (l : List UInt8) (cs : Array Value) (k : Nat) (hk : k = l.length) (hm : l.length ≤ 4096) (hc : cs.toList = l.map byteV) :
  ∃ H', Grows w H (wr.alloc (.cells cs 5)) H' ∧ Hr.le H' ∧ IsBytes H' (some ⟨wr.heap.size, 0, none⟩) k l := by
 obtain ⟨H', hG', hb, _⟩ := Fresh.snapB hG.holds (Fresh.lit wr l cs k hk hm hc)
 exact ⟨H', hG.trans hG', hG'.le, hb⟩
theorem made_zeros2 (n : Nat) : (madeCells (Value.int .u8 0).cells (n * 1)).toList = (List.replicate n (0 : UInt8)).map byteV := by
 apply List.ext_getElem?
 intro j
 simp [madeCells, Value.cells, List.getElem?_replicate]
 by_cases h : j < n
 ·simp [h, byteV, Nat.mod_one]
 ·simp [h]
end Go.Proofs.YtmacemcajlgddaaGreatDoor
namespace Go.Proofs.YtmacemcajlgddaaGreatDoor
open Go.RowKit Go.ChangeShapes Go.WideShapes
instance : Inhabited Ext := ⟨⟨0, false, []⟩⟩
section
variable {H : Type} {enc : TypeId × Value → H} {W : World}
theorem bytes_cell' {fuel : Nat} {c : Value} {x : DataW H × List MemPlace} (h : DataW.trod enc Tryz.prog W 0 (fun _ => true) true fuel 22 [c] = some x) :
  ∃ (A : Option Addr) (k : Nat) (l : List UInt8), c = .slice A l.length k ∧ IsBytes (heapS W) A k l := by
 rcases open_ints Tryz.underlying22 Tryz.underlying5 (by kernel_rfl) h with ⟨hcs, hx⟩ | ⟨a, len, cap, zs, hcs, _, hl, hm, hz, hx, hcell, hwz⟩
 ·simp at hcs
  exact ⟨none, 0, [], hcs, IsBytes.nil _⟩
 ·simp at hcs
  have h1 := bytes_heap hl hm (by simp at hz; omega) hcell hwz
  exact ⟨some a, cap, _, by rw [h1.2]; exact hcs, h1.1⟩
end
end Go.Proofs.YtmacemcajlgddaaGreatDoor
namespace Go.Proofs.YtmacemcajlgddaaGreatDoor
open Go.RowKit
theorem byte_wrap (v : Int) : ∃ x : UInt8, Value.int .u8 (IntKind.u8.wrap v) = byteV x := by
 refine ⟨UInt8.ofNat (v % 256).toNat, ?_⟩
 have h : (v % 256).toNat < 256 := by omega
 rw [IntKind.wrap_u8, byteV, UInt8.toNat_ofNat_of_lt' (by simpa using h)];congr 1
 omega
end Go.Proofs.YtmacemcajlgddaaGreatDoor
namespace Go.Proofs.YtmacemcajlgddaaGreatDoor
open Go.RowKit
theorem mk_Seed (n : Int) (w : World) :
  Calls Tryz.prog 18 #[.int .i64 n] w fun e w' => ∃ A c l, e = .returned (.slice A 32 c) ∧ l.length = 32 ∧ Fresh w l (.slice A 32 c) w' := by
 have hb1 := Below.refl w.heap.size w;go_enter Tryz.func18, Tryz.ntmps18
 go_wp2_with fail
 go_loopw [3, 5] (fun v3 v5 wr => ∃ (k : Nat) (VA : Option Addr) (vc vn : Nat) (l : List UInt8), k ≤ 32 ∧ v5 = .int .i64 (k : Int) ∧ v3 = .slice VA vn vc ∧ vn = k ∧ l.length = k ∧ OwnB wr w.heap.size (.slice VA vn vc) l ∧ Below w.heap.size w wr) (fun _ v5 _ => 32 - (intOf v5).toNat)
 case atStart => exact ⟨0, none, 0, 0, [], by omega, rfl, rfl, rfl, rfl, OwnB.nil _ _, hb1⟩
 case round =>
  clear hb1;obtain ⟨k, VA, vc, vn, l, hk, rfl, rfl, hvn, hlk, hOr, hbr⟩ := hrel;have HK := Hh hk;have HV := Hh (And.intro hvn hlk);clear hk hvn hlk
  by_cases hlt : k < 32
  ·have hki : (k : Int) < 32 := by omega
   have hkd : decide ((k : Int) < 32) = true := decide_eq_true hki;have hkn : decide (k < 32) = true := decide_eq_true hlt;have HLT := Hh hlt;go_wp2_with (at_builtin; refine stop_in ?_)
   unfold Stopped
   obtain ⟨x, hx⟩ : ∃ x : UInt8, Value.int .u8 (bits BinOp.xor IntKind.u8 (IntKind.u64.wrap n / 2 ^ (8 * (k % 8)) % 256) (37 * ((k : Int) / 8))) = byteV x := byte_wrap _
   generalize bits BinOp.xor IntKind.u8 (IntKind.u64.wrap n / 2 ^ (8 * (k % 8)) % 256) (37 * ((k : Int) / 8)) = v at hx ⊢
   have HC : Hid ((#[.int .u8 v] : Array Value).toList = [x].map byteV) := by simp [Hid, ← hx]
   have hO1 := hOr.alloc (.cells #[.int .u8 v] 5);have hb2 := hbr.alloc hbr.size (.cells #[.int .u8 v] 5)
   refine wpList_app_bytes rfl (.tmp 8) (.tmp 22) rfl w.heap.size (.slice VA vn vc) l rfl hO1 _ 1 _ [x] rfl rfl (Src.new _ _ _ _ rfl _ HC.out) (by have := HV.out; have := HK.out; simp; omega) hb2.size fun v' w7 hO7 hg7 hat7 => ?_
   have hb7 := hb2.grown hg7 hb2.size (fun q hq => (hO1.lt q hq).1);obtain ⟨VA', vc', rfl, hjunk⟩ := hO7.form;clear hjunk hg7 hat7 hx hO1 hb2 hOr hbr;obtain ⟨m, hm⟩ : ∃ m, l ++ [x] = m := ⟨_, rfl⟩
   have HM : Hid (m.length = k + 1) := by have := HV.out; rw [Hid, ← hm, List.length_append]; simp; omega
   rw [hm] at hO7 ⊢;clear hm;go_wp2_with fail
   go_roundw
   case rel => exact ⟨k + 1, VA', vc', _, m, by have := HLT.out; omega, by go_num, rfl, HM.out, HM.out, hO7, hb7⟩
   case measure => have := HLT.out; simp [intOf]; omega
  ·have hki : ¬ ((k : Int) < 32) := by omega
   have hkd : decide ((k : Int) < 32) = false := decide_eq_false hki;have hkn : decide (k < 32) = false := decide_eq_false hlt;have hk32 : k = 32 := by have := HK.out; omega
   have HL : Hid (l.length = 32) := by have := HV.out; rw [Hid]; omega
   obtain rfl : vn = 32 := by have := HV.out; omega
   clear hlt hk32;go_wp2_with fail
   go_ret
   exact ⟨VA, vc, rfl, l, HL.out, hOr, hbr⟩
end Go.Proofs.YtmacemcajlgddaaGreatDoor
namespace Go.Proofs.YtmacemcajlgddaaGreatDoor
open Go.RowKit
theorem mk_BytesOwn {H : Snap} {g : Nat} (w : World) (hD : DeckIn w g H) (n : Int) (hn : 0 ≤ n) (hn2 : n ≤ 1048576) :
  Calls Tryz.prog 16 #[.pointer (some ⟨g, 0, none⟩), .int .i64 n] w fun e w' =>
∃ A c n' l, e = .returned (.slice A n' c) ∧ n' = l.length ∧ (l.length : Int) ≤ n ∧ OwnB w' w.heap.size (.slice A n' c) l ∧ (∀ q, (Value.slice A n' c).ownBlock = some q → H q = none) ∧ Dealt w H w' H g := by
 have NX := Hh (deck_Next w hD (n + 1) (by omega) (by omega));have K0 : IntKind.i64.wrap (n + 1) = n + 1 := IntWalk.i64_in _ (by omega);have hgl := hD.deck.lt;have HN := Hh (And.intro hn hn2);have HD := Hh hD;clear hn hn2 hD;go_enter Tryz.func16, Tryz.ntmps16
 go_wp2_with fail
 refine NX.out.mono ?_
 rintro e w1 ⟨r, rfl, hr, hd1⟩
 have hO1 := OwnB.nil w1 w.heap.size;go_wp2_with fail
 go_loopw [5, 6] (fun v5 v6 wr => ∃ (k : Nat) (VA : Option Addr) (vc vn : Nat) (l : List UInt8), v6 = .int .i64 (k : Int) ∧ v5 = .slice VA vn vc ∧ OwnB wr w.heap.size (.slice VA vn vc) l ∧ vn = l.length ∧ (l.length : Int) + k ≤ n ∧ Dealt w H wr H g ∧ (∀ q, (Value.slice VA vn vc).ownBlock = some q → H q = none)) (fun _ v6 _ => (intOf v6).toNat)
 case atStart => exact ⟨r, _, _, _, _, rfl, rfl, hO1, rfl, by simp; omega, hd1, by intro q hq; simp [Value.ownBlock] at hq⟩
 case round =>
  obtain ⟨k, VA, vc, vn, l, rfl, rfl, hOr, hvn, hlk, hdr, hnr⟩ := hrel;have HV := Hh hvn;have HLK := Hh hlk;clear hvn hlk
  by_cases hlt : (0 : Int) < (k : Int)
  ·have NX := Hh (deck_Next wr hdr.deck 256 (by omega) (by omega));go_wp2_with fail
   refine NX.out.mono ?_
   rintro e w2 ⟨q, rfl, hq, hd2⟩
   have hd := hdr.trans hd2;have hO2 := hOr.dealt hd2 hgl;have K1 : IntKind.u8.wrap (q : Int) = (q : Int) := IntWalk.u8_in _ (by omega);have hO3 := hO2.alloc (.cells #[.int .u8 (q : Int)] 5);have hd3 := hd.alloc (.cells #[.int .u8 (q : Int)] 5)
   have HC : Hid ((#[.int .u8 (q : Int)] : Array Value).toList = [u8 q].map byteV) := by
    simp only [Hid, List.map_cons, List.map_nil, byteV_u8]
    congr 2
    omega
   have hk1 : (-9223372036854775808 : Int) ≤ (k : Int) - 1 ∧ (k : Int) - 1 ≤ 9223372036854775807 := by have := HLK.out; have := HN.out; omega
   clear hq NX hdr hOr hd2 hO2 hd;go_wp2_with (at_builtin; refine stop_in ?_)
   unfold Stopped
   obtain rfl := HV.out
   refine wpList_app_bytes rfl (.tmp 15) (.tmp 19) rfl w.heap.size (.slice VA l.length vc) _ rfl hO3 _ 1 _ [u8 q] rfl rfl (Src.new _ _ _ _ rfl _ HC.out) (by have := HLK.out; have := HN.out; simp; omega) hd3.size fun v' w7 hO7 hg7 hat7 => ?_
   obtain ⟨VA', vc', rfl, _⟩ := hO7.form;have hd7 := hd3.grownRow hnr (fun q hq => (hO3.lt q hq).1) hgl hg7
   have hn7 : ∀ q', (Value.slice VA' (l ++ [u8 q]).length vc').ownBlock = some q' → H q' = none := fun q' hq' => by
    rcases hat7 with h | ⟨g', h1, h2⟩
    ·exact hnr q' (by rw [← h, hq'])
    ·rw [hq'] at h1;injection h1 with h1
     subst h1
     exact hd3.holds.none_of_ge h2
   have hl9 : (l ++ [u8 q]).length = l.length + 1 := by simp
   rw [hl9] at hO7 hn7;rw [hl9];clear hl9;have hk2 : IntKind.i64.wrap ((k : Int) - 1) = (k : Int) - 1 := IntWalk.i64_in _ hk1;clear hO3 hg7 hat7 hd3 hk1;go_wp2_with fail
   go_roundw
   case rel => exact ⟨k - 1, VA', vc', _, _, by rw [show ((k - 1 : Nat) : Int) = (k : Int) - 1 by omega], rfl, hO7, by simp, by have := HLK.out; simp; omega, hd7, hn7⟩
   case measure => simp [intOf]; omega
  ·go_wp2_with fail
   go_ret
   exact ⟨VA, vc, vn, rfl, l, HV.out, by have := HLK.out; omega, hOr, hnr, hdr⟩
end Go.Proofs.YtmacemcajlgddaaGreatDoor
