/- squeezed. Walk: cbor.copied. What is authent -/
import Derived.Test.YtmacemcajlgddaaGreatDoorK04
import Derived.Test.YtmacemcajlgddaaGreatDoorK13
import Derived.Test.YtmacemcajlgddaaGreatDoorK19
import Derived.Test.YtmacemcajlgddaaGreatDoorK09
import Derived.Test.YtmacemcajlgddaaGreatDoorK01
import Derived.Test.YtmacemcajlgddaaGreatDoorK00
import Derived.Test.YtmacemcajlgddaaGreatDoorK06
set_option linter.unusedVariables false
set_option linter.unusedSimpArgs false
set_option maxRecDepth 100000
set_option maxHeartbeats 3200000
namespace Go.Proofs.YtmacemcajlgddaaGreatDoor
open Go.RowKit
theorem Snap.with_ne (H : Snap) {g b : Nat} (o : Obj) (h : b ≠ g) : (H.with g o) b = H b := by simp [Snap.with, h]
theorem wpList_make_items {w : World} {ops : Array Oper} {rest : List Oper} {o : Oper} {a : Act} {Q : Exit → Act → World → Prop}
  (hg : o.guard = none) (l c : Operand) (hop : o.op = Op.makeSlice 52 l c)
  (kl kc : IntKind) (L C : Int) (n : Nat) (hl : a.eval l = .int kl L) (hc : a.eval c = .int kc C) (hL : L = (n : Int)) (hC : C = (n : Int)) (b2 : n ≤ 1099511627776) (g : Nat) (hgz : w.heap.size = g)
  (hK : ∀ w' cs, Blk w' g 54 cs → cs.size = n * 4 → Below w.heap.size w w' → wpList Tryz.prog ops Q rest (a.put o.dst (.slice (some ⟨g, 0, none⟩) n n)) w') :
  wpList Tryz.prog ops Q (o :: rest) a w := by
 subst hgz;obtain ⟨i0, hi0, hz0, hz1, hz2⟩ := info_parts info_item
 refine wpList_make_full w hg l c _ hop w.heap.size 54 i0 _ 4 Tryz.underlying52 hi0 hz0 hz1 kl kc L C n hl hc hL hC (by rw [hz2]; omega) (by simp only [maxLen]; omega) (Nat.le_refl _) fun w' h1 h2 => ?_
 rcases h1.2 with ⟨hv, _⟩ | ⟨g, cap, cur, hv, _, hg, _, _, hs, _⟩
 ·cases hv
 ·cases hv
  exact hK w' cur hg hs (grown_none h2)
def CopiedSaid (x : Itm) : Prop := ∀ (H : Snap) (k n : Int) (ba : Option Addr) (bl bc : Nat) (ia : Option Addr) (il ic : Nat) (w : World),
 Modest x → ItemA H k n ba bl bc ia il ic x → Holds w H →
 Calls Tryz.prog 55 #[.agg #[.int .i64 k, .int .u64 n, .slice ba bl bc, .slice ia il ic]] w fun e w' => ∃ v, e = .returned v ∧ Gives w H x v w'
theorem copied_step (x : Itm) (ih : ∀ y : Itm, cnt y < cnt x → CopiedSaid y) : CopiedSaid x := by
 intro H k n ba bl bc ia il ic w hm hx hH
 obtain ⟨rfl, rfl, rfl, rfl, hxi⟩ := hx.eqs;obtain ⟨hm1, hm2, hm3⟩ := hm.parts;have HX := Hh hxi;have hbounds := Hh hxi.bounds;have C := Hh (bytes_Clone ((w.alloc (.cells #[.int .i64 x.kind, .int .u64 x.n, .slice ba x.bytes.length bc, .slice ia x.items.length ic] 54)).alloc (.cells #[.int .i64 0, .int .u64 0, .slice none 0 0, .slice none 0 0] 54)) ba x.bytes x.bytes.length bc rfl hm1 (((Src.of_row hxi.bytes.row hH).alloc _).alloc _));have hB1 := (Blk.new w 54 #[.int .i64 x.kind, .int .u64 x.n, .slice ba x.bytes.length bc, .slice ia x.items.length ic]).alloc (.cells #[.int .i64 0, .int .u64 0, .slice none 0 0, .slice none 0 0] 54);have hB2 := Blk.new (w.alloc (.cells #[.int .i64 x.kind, .int .u64 x.n, .slice ba x.bytes.length bc, .slice ia x.items.length ic] 54)) 54 #[.int .i64 0, .int .u64 0, .slice none 0 0, .slice none 0 0];rw [show (w.alloc (.cells #[.int .i64 x.kind, .int .u64 x.n, .slice ba x.bytes.length bc, .slice ia x.items.length ic] 54)).heap.size = w.heap.size + 1 by simp] at hB2
 clear hx hm hxi hm1;go_enter Tryz.func55, Tryz.ntmps55
 go_wp2_with fail
 refine C.out.mono ?_
 rintro e w1 ⟨r, rfl, hf⟩
 obtain ⟨A', c', rfl, _⟩ := hf.own.form;obtain ⟨H1, hG1, hbs, _⟩ := hf.snapB ((hH.alloc _).alloc _);have hb1n : H1 w.heap.size = none := hG1.none (hH.none_of_ge (Nat.le_refl _)) (by simp; omega);have hb2n : H1 (w.heap.size + 1) = none := hG1.none (hH.none_of_ge (by omega)) (by simp);have hG1 := (((Grows.refl hH).alloc _).alloc _).trans hG1;have hB1 := hB1.below hf.2;have hB2 := hB2.below hf.2;have b2 := hB1.cell 2 rfl;have f2 := hB1.frozen 2;have hB1 := hB1.set_ 2 (.slice A' x.bytes.length c');have b3 := hB1.cell 3 rfl;have hw1 : w.heap.size + 2 ≤ w1.heap.size := by have := hf.2.size; simp at this; omega
 go_wp2_with (at_make; refine stop_in ?_)
 refine wpList_make_items rfl _ _ rfl .i64 .i64 _ _ x.items.length rfl rfl rfl rfl hm2 w1.heap.size (by simp [World.setCell]) fun w2 cs hcs hcz hb2 => ?_
 have hgn : H1 w1.heap.size = none := hG1.hidden (Nat.le_refl _);have hG2 : Grows w H w2 H1 := (hG1.setOwn hb1n (Nat.le_refl _) 2 (.slice A' x.bytes.length c')).below_ hb2;have hB2 := (hB2.far (p := ⟨w.heap.size, 2, none⟩) (by simp) (.slice A' x.bytes.length c')).below hb2;have hB1 := hB1.below hb2;have hw2 : w1.heap.size < w2.heap.size := hcs.lt;have c3 := hB1.cell 3 rfl;have HG2 := Hh hG2;have hle1 := hG1.le;clear hf C b2 f2 b3 hb2;go_upto_region 4 with fail
 go_loopw [17] (fun vi wr => ∃ (k : Nat) (Hr : Snap) (cr : Array Value) (pre : List Value), k ≤ x.items.length ∧ vi = .int .i64 k ∧ Grows w H wr Hr ∧ H1.le Hr ∧ Hr w.heap.size = none ∧ Hr (w.heap.size + 1) = none ∧ Hr w1.heap.size = none ∧
  Blk wr w.heap.size 54 #[.int .i64 x.kind, .int .u64 x.n, .slice A' x.bytes.length c', .slice ia x.items.length ic] ∧ Blk wr (w.heap.size + 1) 54 #[.int .i64 0, .int .u64 0, .slice none 0 0, .slice none 0 0] ∧
  Blk wr w1.heap.size 54 cr ∧ cr.size = x.items.length * 4 ∧ ItemsC Hr pre (x.items.take k) ∧ cr.toList.take (k * 4) = pre) (fun vi _ => x.items.length - (intOf vi).toNat)
 case atStart => exact ⟨0, H1, cs, [], Nat.zero_le _, rfl, HG2.out, Snap.le.refl _, hb1n, hb2n, hgn, hB1, hB2, hcs, hcz, by simp [ItemsC], by simp⟩
 case round =>
  obtain ⟨k, Hr, cr, pre, hk, rfl, hGr, hlr, hn1, hn2, hng, hC1, hC2, hCg, hcrz, hpre, hcp⟩ := hrel
  by_cases hlt : k < x.items.length
  ·obtain ⟨ib, io, hia, hel⟩ := HX.out.items (by omega);obtain ⟨eba, ebc, eia, eic, q0, q1, q2, q3, hex⟩ := hel.get k hlt;subst hia;have hHw := hGr.holds.mono hGr.le;have p0 := hHw.cell q0;have p1 := hHw.cell q1;have p2 := hHw.cell q2;have p3 := hHw.cell q3;have IH := Hh (ih x.items[k] (cnt_items x k hlt) Hr _ _ eba _ ebc eia _ eic (wr.alloc (.cells #[.int .i64 x.items[k].kind, .int .u64 x.items[k].n, .slice eba x.items[k].bytes.length ebc, .slice eia x.items[k].items.length eic] 54)) (hm3.get k hlt) (hex.mono hGr.le).arg (hGr.holds.alloc _));clear q0 q1 q2 q3 hel hex hHw;go_wp2_with fail
   refine IH.out.mono ?_
   rintro e w3 ⟨v, rfl, rba, rbc, ria, ric, Hs, rfl, hG3, his⟩
   have hG4 := (hGr.alloc (.cells #[.int .i64 x.items[k].kind, .int .u64 x.items[k].n, .slice eba x.items[k].bytes.length ebc, .slice eia x.items[k].items.length eic] 54)).trans hG3;have hD1 := (hC1.alloc (.cells #[.int .i64 x.items[k].kind, .int .u64 x.items[k].n, .slice eba x.items[k].bytes.length ebc, .slice eia x.items[k].items.length eic] 54)).below hG3.below;have hD2 := (hC2.alloc (.cells #[.int .i64 x.items[k].kind, .int .u64 x.items[k].n, .slice eba x.items[k].bytes.length ebc, .slice eia x.items[k].items.length eic] 54)).below hG3.below;have hDg := (hCg.alloc (.cells #[.int .i64 x.items[k].kind, .int .u64 x.items[k].n, .slice eba x.items[k].bytes.length ebc, .slice eia x.items[k].items.length eic] 54)).below hG3.below;have hm1' := hG3.none hn1 (by have := hC1.lt; simp; omega);have hm2' := hG3.none hn2 (by have := hC2.lt; simp; omega);have hmg' := hG3.none hng (by have := hCg.lt; simp; omega)
   have hpre2 : ItemsC Hs (pre ++ itemC x.items[k] rba rbc ria ric) (x.items.take (k + 1)) := by
    rw [List.take_succ_eq_append_getElem hlt]
    exact (hpre.mono hG3.le).app (ItemsC.one his)
   have hlr2 := hlr.trans hG3.le;have HCP := Hh hcp;clear p0 p1 p2 p3 IH hC1 hC2 hCg hpre hGr hG3 hcp;go_wp2_with (with_reducible refine stop_store ?_)
   refine wpList_store_blk rfl _ _ _ rfl rfl w1.heap.size (k * 4) _ rfl rfl _ _ hDg size_item (by show k * 4 + 4 ≤ cr.size; omega) (one4 _ _ _ _ rfl rfl rfl rfl) fun w4 hDg4 hg4 => ?_
   have hG5 := hG4.grownOwn hmg' (by omega) hg4;have hD1 := hD1.grown hg4 (by simp; omega);have hD2 := hD2.grown hg4 (by simp; omega);have hsz : (putC cr (k * 4) (itemC x.items[k] rba rbc ria ric)).size = x.items.length * 4 := by rw [putC_size]; exact hcrz
   have htk : (putC cr (k * 4) (itemC x.items[k] rba rbc ria ric)).toList.take ((k + 1) * 4) = pre ++ itemC x.items[k] rba rbc ria ric := by
    rw [show (k + 1) * 4 = k * 4 + (itemC x.items[k] rba rbc ria ric).length by simp [itemC]; omega, putC_take _ _ _ (by simp [itemC]; omega), HCP.out]
   have HTK := Hh htk;clear htk hG4 hDg;go_wp2_with fail
   go_roundw
   case rel => exact ⟨k + 1, Hs, _, _, by omega, by go_num, hG5, hlr2, hm1', hm2', hmg', hD1, hD2, hDg4, hsz, hpre2, HTK.out⟩
   case measure => simp [intOf]; omega
  ·have hkl : k = x.items.length := by omega
   subst hkl;rw [List.take_length] at hpre;have HCP := Hh hcp;clear hcp;have hF := hGr.withOwn hng (by omega) hCg;have hK := hlr.trans (Snap.le_with hng (o := .cells cr 54 (0, 0)));have hn2' : (Hr.with w1.heap.size (.cells cr 54 (0, 0))) (w.heap.size + 1) = none := by rw [Snap.with_ne _ _ (by omega)]; exact hn2
   have hn1' : (Hr.with w1.heap.size (.cells cr 54 (0, 0))) w.heap.size = none := by rw [Snap.with_ne _ _ (by omega)]; exact hn1
   have helems : IsElems (Hr.with w1.heap.size (.cells cr 54 (0, 0))) w1.heap.size 0 x.items :=
    (hpre.mono (Snap.le_with hng)).elems (Blk.cellsAt _ rfl pre (by rw [hpre.len]; exact HCP.out))
   have hbs' := hbs.mono hK;have hsz : w.heap.size < wr.heap.size := hC1.lt;clear hCg;go_wp2_with (with_reducible refine stop_store ?_)
   refine wpList_store_cell rfl _ _ _ rfl rfl w.heap.size 3 _ rfl rfl _ _ hC1 size_items (by simp) rfl fun w4 hE1 hg4 => ?_
   have hE2 := hC2.grown hg4 (by simp);have hGE := hF.grownOwn hn1' (Nat.le_refl _) hg4;clear hC1 hC2
   by_cases h0 : x.items.length = 0
   ·have hitem : IsItem (Hr.with w1.heap.size (.cells cr 54 (0, 0))) A' c' none 0 x := by
     obtain ⟨z1, z2, z3, _⟩ := hbounds.out
     cases x
     rw [IsItem]
     exact ⟨⟨z1, z2, z3, Nat.le_of_eq h0, by omega⟩, hbs', fun h => absurd h (by simp [Itm.items] at h0; simp [h0])⟩
    have HI := Hh hitem;have h00 : (x.items.length : Int) = 0 := by omega
    have H00 := Hh h0;clear h0 hitem;go_wp2_with (with_reducible refine stop_store ?_)
    refine wpList_store_cell rfl _ _ _ rfl rfl w.heap.size 3 _ rfl rfl _ _ hE1 size_items (by simp) rfl fun w5 hF1 hg5 => ?_
    have hF2 := hE2.grown hg5 (by simp);have hGE := hGE.grownOwn hn1' (Nat.le_refl _) hg5;have i0 := hF1.cell 0 rfl;have i1 := hF1.cell 1 rfl;have i2 := hF1.cell 2 rfl;have i3 := hF1.cell 3 rfl;go_wp2_with (with_reducible refine stop_store ?_)
    refine stI hF2 fun w6 hJ2 hg6 => ?_
    go_wp2_with fail
    refine ret_row rfl rfl hJ2 rfl rfl size_item rfl ?_
    exact ⟨_, rfl, A', c', none, 0, _, by simp [itemV, H00.out], hGE.grownOwn hn2' (by omega) hg6, HI.out⟩
   ·have hitem : IsItem (Hr.with w1.heap.size (.cells cr 54 (0, 0))) A' c' (some ⟨w1.heap.size, 0, none⟩) x.items.length x := by
     obtain ⟨z1, z2, z3, z4, z5, z6, z7⟩ := hbounds.out
     cases x
     rw [IsItem]
     exact ⟨⟨z1, z2, z3, Nat.le_refl _, by simp only [Itm.items] at z6 ⊢; omega⟩, hbs', fun h => ⟨_, _, rfl, helems⟩⟩
    have HI := Hh hitem;have h00 : ((x.items.length : Int) == 0) = false := by rw [beq_eq_false_iff_ne]; omega
    clear h0 hitem;have i0 := hE1.cell 0 rfl;have i1 := hE1.cell 1 rfl;have i2 := hE1.cell 2 rfl;have i3 := hE1.cell 3 rfl;go_wp2_with (with_reducible refine stop_store ?_)
    refine stI hE2 fun w6 hJ2 hg6 => ?_
    go_wp2_with fail
    refine ret_row rfl rfl hJ2 rfl rfl size_item rfl ?_
    exact ⟨_, rfl, A', c', _, _, _, rfl, hGE.grownOwn hn2' (by omega) hg6, HI.out⟩
theorem cbor_copied (x : Itm) : CopiedSaid x := by
 have main : ∀ N, ∀ x : Itm, cnt x ≤ N → CopiedSaid x := by
  intro N
  induction N with
  | zero =>
   intro x hx
   have : 0 < cnt x := by cases x; rw [cnt]; omega
   omega
  | succ N ih => exact fun x hx => copied_step x fun y hy => ih y (by omega)
 exact main _ x (Nat.le_refl _)
theorem encB_len (k : Int) (n : Nat) (bs : List UInt8) (l : List Itm) (h8 : k ≠ 8) (h7 : k ≠ 7) : (encB (.mk k n bs l)).length ≤ 9 + bs.length + (encL l).length := by
 rw [encB_eq, if_neg (by simpa [Itm.kind] using h8), if_neg (by simp [Itm.kind, h7])];have := (headB_le k.toNat (numP (.mk k n bs l))).2
 simp only [Itm.kind, Itm.bytes, Itm.items, List.length_append]
 omega
theorem good_str (k : Int) (hk : k = 2 ∨ k = 3) (bs : List UInt8) (lv : Nat) (hv : k = 3 → Lib.validD bs = true) : Good (.mk k 0 bs []) lv := by
 refine Good.of ?_ (by simp only [Itm.items]; rw [GoodL]; trivial) (fun h => by simp only [Itm.kind] at h; omega)
 rw [nodeOk, if_pos (by rw [isPlain_iff]; simp only [Itm.kind]; omega)]
 rcases hk with rfl | rfl
 ·simp [okPlain, Itm.kind, Itm.n, Itm.items]
 ·simp [okPlain, Itm.kind, Itm.n, Itm.items, Itm.bytes, hv rfl]
structure Ky where
 kty : Int
 crv : Int
 alg : Int
 kid : List UInt8
 x : List UInt8
 d : List UInt8
 k : List UInt8
def sizedK (b : List UInt8) : Bool := decide (b.length = 0) || decide (b.length = 32)
def validK (q : Ky) : Bool :=
 decide (q.kid.length ≤ 16) && decide (-65536 ≤ q.alg) && decide (q.alg ≤ 65535) &&
 (if q.kty = 1 then (decide (q.crv = 4) || decide (q.crv = 6)) && sizedK q.x && sizedK q.d && decide (0 < q.x.length + q.d.length) && decide (q.k.length = 0)
  else if q.kty = 4 then decide (q.crv = 0) && decide (q.x.length + q.d.length = 0) && decide (1 ≤ q.k.length) && decide (q.k.length ≤ 64) else false)
def strI (b : List UInt8) : Itm := .mk 2 0 b []
def optS (n : Int) (b : List UInt8) : List Itm := if 0 < b.length then [intP n, strI b] else []
def pairsK (q : Ky) : List Itm :=
 [intP 1, intP q.kty] ++ optS 2 q.kid ++ (if q.alg = 0 then [] else [intP 3, intP q.alg]) ++
  (if q.kty = 4 then optS (-1) q.k else [intP (-1), intP q.crv] ++ optS (-2) q.x ++ optS (-4) q.d)
def itemK (q : Ky) : Itm := .mk 5 0 [] (pairsK q)
theorem lt_labels : Lib.compareBytes (encB (intP 1)) (encB (intP 2)) < 0 ∧ Lib.compareBytes (encB (intP 1)) (encB (intP 3)) < 0 ∧ Lib.compareBytes (encB (intP 1)) (encB (intP (-1))) < 0 ∧
  Lib.compareBytes (encB (intP 2)) (encB (intP 3)) < 0 ∧ Lib.compareBytes (encB (intP 2)) (encB (intP (-1))) < 0 ∧ Lib.compareBytes (encB (intP 3)) (encB (intP (-1))) < 0 ∧
  Lib.compareBytes (encB (intP (-1))) (encB (intP (-2))) < 0 ∧ Lib.compareBytes (encB (intP (-1))) (encB (intP (-4))) < 0 ∧ Lib.compareBytes (encB (intP (-2))) (encB (intP (-4))) < 0 := by
 rw [encB_intP, encB_intP, encB_intP, encB_intP, encB_intP, encB_intP];decide +kernel
theorem asc_pairsK (q : Ky) : ascP (pairsK q) = true := by
 obtain ⟨h12, h13, h1m, h23, h2m, h3m, hm2, hm4, h24⟩ := lt_labels
 unfold pairsK optS
 repeat' split
 all_goals simp [ascP, h12, h13, h1m, h23, h2m, h3m, hm2, hm4, h24]
theorem validK_iff (q : Ky) : validK q = true ↔ (q.kid.length ≤ 16 ∧ -65536 ≤ q.alg ∧ q.alg ≤ 65535 ∧
  ((q.kty = 1 ∧ (q.crv = 4 ∨ q.crv = 6) ∧ (q.x.length = 0 ∨ q.x.length = 32) ∧ (q.d.length = 0 ∨ q.d.length = 32) ∧ 0 < q.x.length + q.d.length ∧ q.k.length = 0) ∨
   (q.kty = 4 ∧ q.crv = 0 ∧ q.x.length + q.d.length = 0 ∧ 1 ≤ q.k.length ∧ q.k.length ≤ 64))) := by
 unfold validK sizedK
 split
 ·rename_i h1
  simp [h1, and_assoc]
 ·split
  ·rename_i h1 h4
   simp [h1, h4, and_assoc]
  ·rename_i h1 h4
   simp [h1, h4]
theorem good_strI (b : List UInt8) (lv : Nat) : Good (strI b) lv := good_str 2 (.inl rfl) b lv (fun h => by omega)
theorem goodL_pairsK (q : Ky) (lv : Nat) : GoodL (pairsK q) lv := by
 unfold pairsK optS
 repeat' split
 all_goals simp [GoodL, good_intP, good_strI]
theorem pairsK_even (q : Ky) : (pairsK q).length % 2 = 0 := by
 unfold pairsK optS
 repeat' split
 all_goals simp
theorem pairsK_len (q : Ky) : 2 ≤ (pairsK q).length ∧ (pairsK q).length ≤ 12 := by
 unfold pairsK optS
 repeat' split
 all_goals simp
theorem good_itemK (q : Ky) : Good (itemK q) 0 := by
 refine Good.of ?_ (goodL_pairsK q 1) (fun _ => asc_pairsK q)
 have h := pairsK_even q;rw [nodeOk, if_neg (by rw [isPlain_iff]; simp [itemK, Itm.kind]), frameOk]
 simp [itemK, Itm.kind, Itm.bytes, Itm.items, Itm.n, h]
def leafK (x : Itm) : Prop := cnt x = 1 ∧ (encB x).length ≤ 73
theorem leaf_intP (n : Int) : leafK (intP n) := by
 unfold intP
 split
 ·refine ⟨by simp [cnt, cntL], ?_⟩
  have h := encB_len 1 (-1 - n).toNat [] [] (by decide) (by decide)
  simp [encL] at h
  omega
 ·refine ⟨by simp [cnt, cntL], ?_⟩
  have h := encB_len 0 n.toNat [] [] (by decide) (by decide)
  simp [encL] at h
  omega
theorem leaf_strI {b : List UInt8} (hb : b.length ≤ 64) : leafK (strI b) := by
 refine ⟨by simp [strI, cnt, cntL], ?_⟩
 have h := encB_len 2 0 b [] (by decide) (by decide)
 simp [encL] at h
 simp only [strI]
 omega
theorem sum_leaf : ∀ l : List Itm, (∀ x ∈ l, leafK x) → cntL l = l.length ∧ (encL l).length ≤ 73 * l.length
 | [], _ => by simp [cntL, encL]
 | x :: l, h => by
  have h1 := h x (by simp);have h2 := sum_leaf l fun y hy => h y (by simp [hy])
  simp only [cntL, encL, List.length_cons, List.length_append]
  have := h1.1;have := h1.2
  omega
theorem mem_optS {x : Itm} {n : Int} {b : List UInt8} (h : x ∈ optS n b) : x = intP n ∨ x = strI b := by
 unfold optS at h
 split at h
 ·simpa using h
 ·simp at h
theorem leaf_pairsK {q : Ky} (h : validK q = true) : ∀ x ∈ pairsK q, leafK x := by
 have hv := (validK_iff q).mp h;have hx : q.x.length ≤ 64 := by omega
 have hd : q.d.length ≤ 64 := by omega
 have hk : q.k.length ≤ 64 := by omega
 have hi : q.kid.length ≤ 64 := by omega
 intro x hm
 unfold pairsK at hm
 simp only [List.mem_append] at hm
 rcases hm with ((hm | hm) | hm) | hm
 ·simp at hm
  rcases hm with rfl | rfl <;> exact leaf_intP _
 ·rcases mem_optS hm with rfl | rfl
  ·exact leaf_intP _
  ·exact leaf_strI hi
 ·split at hm
  ·simp at hm
  ·simp at hm
   rcases hm with rfl | rfl <;> exact leaf_intP _
 ·split at hm
  ·rcases mem_optS hm with rfl | rfl
   ·exact leaf_intP _
   ·exact leaf_strI hk
  ·simp only [List.mem_append] at hm
   rcases hm with (hm | hm) | hm
   ·simp at hm
    rcases hm with rfl | rfl <;> exact leaf_intP _
   ·rcases mem_optS hm with rfl | rfl
    ·exact leaf_intP _
    ·exact leaf_strI hx
   ·rcases mem_optS hm with rfl | rfl
    ·exact leaf_intP _
    ·exact leaf_strI hd
theorem validP_itemK {q : Ky} (h : validK q = true) : validP (itemK q) = true := by
 have hs := sum_leaf (pairsK q) (leaf_pairsK h);have hl := pairsK_len q
 refine (validP_iff _).mpr ⟨good_itemK q, ?_, ?_⟩
 ·rw [cnt_eq];show cntL (pairsK q) + 1 ≤ 256
  omega
 ·have h2 := encB_len 5 0 [] (pairsK q) (by decide) (by decide)
  simp at h2
  show (encB (.mk 5 0 [] (pairsK q))).length ≤ 4096
  omega
theorem validP_pairsK {q : Ky} (h : validK q = true) : ∀ x ∈ pairsK q, validP x = true :=
 fun x hx => validP_elem (validP_itemK h) (show x ∈ (itemK q).items from hx)
theorem buildK {q : Ky} (h : validK q = true) : (pairsK q).length % 2 = 0 ∧ ascP (pairsK q) = true ∧ (∀ x ∈ pairsK q, validP x = true) ∧ validP (.mk 5 0 [] (pairsK q)) = true :=
 ⟨pairsK_even q, asc_pairsK q, validP_pairsK h, validP_itemK h⟩
end Go.Proofs.YtmacemcajlgddaaGreatDoor
