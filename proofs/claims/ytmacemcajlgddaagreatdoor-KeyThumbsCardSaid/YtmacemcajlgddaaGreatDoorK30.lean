/- squeezed. Walks: the deck's key. -/
import Derived.Test.YtmacemcajlgddaaGreatDoorK29
import Derived.Test.YtmacemcajlgddaaGreatDoorK23
import Derived.Test.YtmacemcajlgddaaGreatDoorK04
import Derived.Test.YtmacemcajlgddaaGreatDoorK24
import Derived.Test.YtmacemcajlgddaaGreatDoorK17
import Derived.Test.YtmacemcajlgddaaGreatDoorK06
import Derived.Test.YtmacemcajlgddaaGreatDoorK20
import Derived.Test.YtmacemcajlgddaaGreatDoorK01
import Derived.Test.YtmacemcajlgddaaGreatDoorK00
set_option linter.unusedVariables false
set_option linter.unusedSimpArgs false
set_option maxRecDepth 100000
set_option maxHeartbeats 25600000
namespace Go.Proofs.YtmacemcajlgddaaGreatDoor
open Go.RowKit
abbrev zeroK : Array Value := #[.int .i64 0, .int .i64 0, .int .i64 0, .slice none 0 0, .slice none 0 0, .slice none 0 0, .slice none 0 0]
def zeroKy : Ky := ⟨0, 0, 0, [], [], [], []⟩
theorem size_key : (Tryz.prog.info? 24).map (·.size) = some 7 := by kernel_rfl
theorem one7 (a b c d e f g : Value) (ha : a.oneCell' = true) (hb : b.oneCell' = true) (hc : c.oneCell' = true) (hd : d.oneCell' = true) (he : e.oneCell' = true) (hf : f.oneCell' = true) (hg : g.oneCell' = true) :
  (#[a, b, c, d, e, f, g] : Array Value).all (·.oneCell') = true := by simp [ha, hb, hc, hd, he, hf, hg]
def isAlg : Value → Bool
 | .int .i64 n => decide (-65536 ≤ n) && decide (n ≤ 65535)
 | _ => false
def isCrv : Value → Bool
 | .int .i64 n => decide (n = 4) || decide (n = 6)
 | _ => false
theorem isCrv_spec {v : Value} (h : isCrv v = true) : ∃ n, v = .int .i64 n ∧ (n = 4 ∨ n = 6) := by
 unfold isCrv at h
 split at h
 ·rw [Bool.or_eq_true, decide_eq_true_eq, decide_eq_true_eq] at h
  exact ⟨_, rfl, h⟩
 ·cases h
structure KM (W0 : World) (H : Snap) (g R K : Nat) (kc : Array Value) (w : World) (Hr : Snap) : Prop where
 dealt : Dealt W0 H w Hr g
 res : Blk w R 24 zeroK
 key : Blk w K 24 kc
 hR : Hr R = none
 hK : Hr K = none
 neRK : R ≠ K
 gW : g < W0.heap.size
 wR : W0.heap.size ≤ R
 wK : W0.heap.size ≤ K
section
variable {W0 w w' : World} {H Hr Hs : Snap} {g R K : Nat} {kc kc' : Array Value}
theorem KM.step (h : KM W0 H g R K kc w Hr) (hd : Dealt w Hr w' Hs g) : KM W0 H g R K kc w' Hs :=
 ⟨h.dealt.trans hd, h.res.dealt hd (by have := h.gW; have := h.wR; omega), h.key.dealt hd (by have := h.gW; have := h.wK; omega), hd.hid h.hR h.res.lt, hd.hid h.hK h.key.lt, h.neRK, h.gW, h.wR, h.wK⟩
theorem KM.grow (h : KM W0 H g R K kc w Hr) (k : Grows w Hr w' Hs) : KM W0 H g R K kc w' Hs := h.step (h.dealt.deck.grows k)
theorem KM.alloc (h : KM W0 H g R K kc w Hr) (o : Obj) : KM W0 H g R K kc (w.alloc o) Hr := h.grow ((Grows.refl h.dealt.holds).alloc o)
theorem KM.drew (h : KM W0 H g R K kc w Hr) : KM W0 H g R K kc w.drew Hr := h.grow ((Grows.refl h.dealt.holds).drew)
theorem KM.set (h : KM W0 H g R K kc w Hr) (hB : Blk w' K 24 kc') (hg : w.grownBy w' (some K)) : KM W0 H g R K kc' w' Hr :=
 ⟨h.dealt.grownRow (by rintro q ⟨⟩; exact h.hK) (by rintro q ⟨⟩; exact h.wK) h.gW hg, h.res.grown hg (fun e => by injection e with e; exact h.neRK e.symm), hB, h.hR, h.hK, h.neRK, h.gW, h.wR, h.wK⟩
theorem KM.row {row : Option Nat} (h : KM W0 H g R K kc w Hr) (h0 : ∀ q, row = some q → Hr q = none ∧ W0.heap.size ≤ q ∧ q ≠ R ∧ q ≠ K) (hg : w.grownBy w' row) : KM W0 H g R K kc w' Hr :=
 ⟨h.dealt.grownRow (fun q e => (h0 q e).1) (fun q e => (h0 q e).2.1) h.gW hg, h.res.grown hg (fun e => (h0 _ e).2.2.1 rfl), h.key.grown hg (fun e => (h0 _ e).2.2.2 rfl), h.hR, h.hK, h.neRK, h.gW, h.wR, h.wK⟩
theorem KM.lit (h : KM W0 H g R K kc w Hr) (cs : Array Value) (t : TypeId) : Blk (w.alloc (.cells cs t)) w.heap.size t cs ∧ w.heap.size ≠ g ∧ w.heap.size ≠ K :=
 ⟨Blk.new _ _ _, by have := h.gW; have := h.dealt.size; omega, by have := h.key.lt; omega⟩
theorem KM.snapB {A : Option Addr} {m c B : Nat} {l : List UInt8} (h : KM W0 H g R K kc w Hr) (hO : OwnB w B (.slice A m c) l) (hn : ∀ q, (Value.slice A m c).ownBlock = some q → Hr q = none ∧ W0.heap.size ≤ q ∧ q ≠ R ∧ q ≠ K) :
  ∃ H', KM W0 H g R K kc w H' ∧ Hr.le H' ∧ IsBytes H' A c l ∧ m = l.length := by
 have hn' : ∀ q, A.map (·.block) = some q → (Value.slice A m c).ownBlock = some q := fun q hq => by cases A <;> simp_all [Value.ownBlock]
 obtain ⟨H', hl, hh, hf, hm, hb⟩ := hO.snap h.dealt.holds (fun q hq => (hn q (hn' q hq)).1)
 have hno : ∀ b, Hr b = none → (∀ q, (Value.slice A m c).ownBlock = some q → q ≠ b) → H' b = none := fun b hb hne => by
  cases hx : H' b with
  | none => rfl
  | some o =>
   rcases hf b o hx with h1 | h1
   ·rw [hb] at h1; cases h1
   ·exact absurd rfl (hne b (hn' b h1))
 refine ⟨H', ⟨⟨⟨h.dealt.grows.grown, h.dealt.le.trans hl, hh, fun b o hb => ?_⟩, ⟨h.dealt.deck.deck.mono hl, hh, hno _ h.dealt.deck.apart (fun q hq e => by have := (hn q hq).2.1; have := h.gW; omega)⟩⟩, h.res, h.key, hno _ h.hR (fun q hq => (hn q hq).2.2.1), hno _ h.hK (fun q hq => (hn q hq).2.2.2), h.neRK, h.gW, h.wR, h.wK⟩, hl, hb, hm⟩
 rcases hf b o hb with h1 | h1
 ·exact h.dealt.grows.fresh b o h1
 ·exact .inr (hn b (hn' b h1)).2.1
end
def KeyMade (w : World) (H : Snap) (g : Nat) (e : Ending) (w' : World) : Prop := ∃ q a H', e = .returned (.agg (keyQ q a)) ∧ Dealt w H w' H' g ∧ KeyA H' q a ∧ validK q = true
theorem valid_sym {g : Int} {kid k : List UInt8} (hg : -65536 ≤ g ∧ g ≤ 65535) (hi : kid.length ≤ 16) (h1 : 1 ≤ k.length) (h2 : k.length ≤ 64) : validK ⟨4, 0, g, kid, [], [], k⟩ = true :=
 (validK_iff _).2 ⟨hi, hg.1, hg.2, .inr ⟨rfl, rfl, rfl, h1, h2⟩⟩
theorem valid_okp {v g : Int} {kid x d : List UInt8} (hv : v = 4 ∨ v = 6) (hg : -65536 ≤ g ∧ g ≤ 65535) (hi : kid.length ≤ 16) (hx : x.length = 0 ∨ x.length = 32) (hd : d.length = 0 ∨ d.length = 32) (h0 : 0 < x.length + d.length) : validK ⟨1, v, g, kid, x, d, []⟩ = true :=
 (validK_iff _).2 ⟨hi, hg.1, hg.2, .inl ⟨rfl, hv, hx, hd, h0, rfl⟩⟩
theorem deck_Key {H : Snap} {g : Nat} (w : World) (hD : DeckIn w g H) :
  Calls Tryz.prog 6 #[.pointer (some ⟨g, 0, none⟩)] w (KeyMade w H g) := by
 have hgl := hD.deck.lt;have hd1 := (Dealt.refl hD).alloc (.cells zeroK 24);have hR1 := Blk.new w 24 zeroK;have hRn : H w.heap.size = none := hD.holds.none_of_ge (Nat.le_refl _);have HGL := Hh hgl;clear hD;go_enter Tryz.func6, Tryz.ntmps6
 go_wp2_with fail
 refine (mk_Bytes _ hd1.deck 4 (by omega) (by omega)).mono ?_
 rintro e w2 ⟨A2, c2, l2, rfl, hl2, H2, hb2, hd2⟩
 have hR2 := hR1.dealt hd2 (by omega);have hRn2 := hd2.hid hRn hR1.lt;have hdd := hd1.trans hd2;have hB := Blk.new w2 3 #[.int .i64 0, .int .i64 0, .int .i64 10, .int .i64 (-8), .int .i64 5];have hd3 := hdd.alloc (.cells #[.int .i64 0, .int .i64 0, .int .i64 10, .int .i64 (-8), .int .i64 5] 3);have hR3 := hR2.alloc (.cells #[.int .i64 0, .int .i64 0, .int .i64 10, .int .i64 (-8), .int .i64 5] 3);have hw2 : g ≠ w2.heap.size := by have := hdd.size; omega
 clear hd1 hd2 hR1 hR2 hRn hdd hgl;have HL2 := Hh hl2;obtain ⟨n2, hn2⟩ : ∃ n2, l2.length = n2 := ⟨_, rfl⟩
 have HN2 := Hh hn2;rw [hn2];clear hl2 hn2;go_wp2_with fail
 refine (deck_Next _ hd3.deck 5 (by omega) (by omega)).mono ?_
 rintro e w4 ⟨j, rfl, hj, hd4⟩
 have hB4 := hB.dealt hd4 (Ne.symm hw2);obtain ⟨v, hc, hP⟩ := hB4.pick isI64 (by kernel_rfl) j (by simp; omega);obtain ⟨alg, rfl, halg⟩ := isI64_spec hP;have hb4 := hb2.mono hd4.le
 have hKM : KM w H g w.heap.size w4.heap.size (keyC 0 0 alg A2 n2 c2 none 0 0 none 0 0 none 0 0) (w4.alloc (.cells (keyC 0 0 alg A2 n2 c2 none 0 0 none 0 0 none 0 0) 24)) _ :=
  ⟨(hd3.trans hd4).alloc _, (hR3.dealt hd4 (by have := HGL.out; omega)).alloc _, Blk.new _ _ _, hd4.hid hRn2 hR3.lt, hd4.holds.none_of_ge (Nat.le_refl _), by have := (hR3.dealt hd4 (by have := HGL.out; omega)).lt; omega, HGL.out, Nat.le_refl _, (hd3.trans hd4).size⟩
 have HALG := Hh (show -65536 ≤ alg ∧ alg ≤ 65535 by omega);obtain ⟨Kb, hKe⟩ : ∃ Kb, w4.heap.size = Kb := ⟨_, rfl⟩
 obtain ⟨w5, hw5⟩ : ∃ w5, w4.alloc (.cells (keyC 0 0 alg A2 n2 c2 none 0 0 none 0 0 none 0 0) 24) = w5 := ⟨_, rfl⟩
 have HW5 := Hh (show w4.alloc (.cells #[.int .i64 0, .int .i64 0, .int .i64 alg, .slice A2 n2 c2, .slice none 0 0, .slice none 0 0, .slice none 0 0] 24) = w5 from hw5);rw [hw5, hKe] at hKM;have HKE := Hh hKe;have HB2 := Hh hb4;clear hB hB4 hP hd3 hd4 halg hR3 hRn2 hw2 hb2 hw5 hKe hb4;go_upto_region 2 with fail
 rw [HW5.out]
 try rw [HKE.out]
 clear hc HW5 HKE hj;go_wp2_with fail
 refine (deck_Next _ hKM.dealt.deck 3 (by omega) (by omega)).mono ?_
 rintro e w6 ⟨r, rfl, hr, hd6⟩
 replace hKM := hKM.step hd6;replace HB2 := Hh (HB2.out.mono hd6.le);clear hd6
 by_cases h0 : r = 0
 ·subst h0;clear hr;go_wp2_with fail
  refine (mk_BytesOwn _ hKM.dealt.deck 20 (by omega) (by omega)).mono ?_
  rintro e w7 ⟨A7, c7, n7, l7, rfl, hn7, hl7, hO7, hno7, hd7⟩
  have hs6 : w.heap.size < w6.heap.size ∧ Kb < w6.heap.size := ⟨hKM.res.lt, hKM.key.lt⟩
  have hws : w.heap.size ≤ w6.heap.size := hKM.dealt.size;replace hKM := hKM.step hd7;have hno8 : ∀ q, (Value.slice A7 n7 c7).ownBlock = some q → H2 q = none ∧ (w.heap.size ≤ q ∧ q ≠ w.heap.size ∧ q ≠ Kb) := fun q hq => And.intro (hno7 q hq) (show w.heap.size ≤ q ∧ q ≠ w.heap.size ∧ q ≠ Kb by have := (hO7.lt q hq).1; omega)
  have HLT := Hh (And.intro hs6 (And.intro hws (And.intro hl7 hn7)));replace hKM := hKM.alloc (.cells #[.int .u8 7] 5);have HO8 := Hh (hO7.alloc (.cells #[.int .u8 7] 5));have HNO := Hh hno8;have hZ : Src (w7.alloc (.cells #[.int .u8 7] 5)) (some ⟨w7.heap.size, 0, none⟩) ([7].map byteV) := Src.new _ _ _ _ rfl _ rfl;have HZ := Hh hZ;have HH8 := Hh hKM.dealt.holds;have h67 : Hid (w6.heap.size ≤ w7.heap.size) := hd7.size;clear hs6 hws hl7 hn7 hO7 hno7 hno8 hd7 hZ;go_wp2_with (at_builtin; refine stop_in ?_)
  refine wpList_app_bytes rfl _ _ rfl w6.heap.size (.slice A7 n7 c7) l7 rfl HO8.out _ 1 _ [7] rfl rfl HZ.out (by have := HLT.out; simp; omega) (by have := h67.out; simp; omega) fun v9 w9 hO9 hg9 ha9 => ?_
  replace hKM := hKM.row (fun q hq => HNO.out q hq) hg9;obtain ⟨A9, c9, rfl, _⟩ := hO9.form
  have hno9 : ∀ q, (Value.slice A9 (l7 ++ [7]).length c9).ownBlock = some q → H2 q = none ∧ (w.heap.size ≤ q ∧ q ≠ w.heap.size ∧ q ≠ Kb) := fun q hq => And.intro (ha9.elim (fun e => (HNO.out q (by rw [← e]; exact hq)).1) (fun ⟨g', e, hs⟩ => by
   rw [hq] at e;injection e with e
   subst e
   exact HH8.out.none_of_ge hs)) (show w.heap.size ≤ q ∧ q ≠ w.heap.size ∧ q ≠ Kb by have := (hO9.lt q hq).1; have := HLT.out; omega)
  obtain ⟨l9, hl9⟩ : ∃ l9, l7 ++ [7] = l9 := ⟨_, rfl⟩
  have HL9 := Hh (show 1 ≤ l9.length ∧ l9.length ≤ 64 by have := HLT.out; rw [← hl9]; simp; omega);rw [hl9] at hO9 hno9 ⊢;obtain ⟨n9, hn9⟩ : ∃ n9, l9.length = n9 := ⟨_, rfl⟩
  rw [hn9] at hO9 hno9 ⊢;have HN9 := Hh hn9;have HNO9 := Hh hno9;clear hl9 hn9 hno9 hg9 ha9 HO8 HNO HZ h67 HLT HH8;go_wp2_with (with_reducible refine stop_store ?_)
  refine wpList_store_cell rfl _ _ _ rfl rfl Kb 0 (.int .i64 4) rfl rfl _ _ hKM.key (by kernel_rfl) (by simp) rfl fun wa hBa hga => ?_
  replace hKM := hKM.set (kc' := keyC 4 0 alg A2 n2 c2 none 0 0 none 0 0 none 0 0) hBa hga;have hOa := hO9.kept hga (.inr (fun e => by have := (HNO9.out _ e).2; exact this.2.2 rfl));clear hO9 hBa hga;go_wp2_with (with_reducible refine stop_store ?_)
  refine wpList_store_cell rfl _ _ _ rfl rfl Kb 6 (.slice A9 n9 c9) rfl rfl _ _ hKM.key (by kernel_rfl) (by simp) rfl fun wb hBb hgb => ?_
  replace hKM := hKM.set (kc' := keyC 4 0 alg A2 n2 c2 none 0 0 none 0 0 A9 n9 c9) hBb hgb;have hOb := hOa.kept hgb (.inr (fun e => by have := (HNO9.out _ e).2; exact this.2.2 rfl));obtain ⟨H9, hKM9, hle9, hb9, hm9⟩ := hKM.snapB hOb HNO9.out;replace hKM := hKM9;replace HB2 := Hh (HB2.out.mono hle9);have HB9 := Hh hb9;clear hBb hgb hOa hOb HNO9 hKM9 hle9 hb9 hm9;have c0 := hKM.key.cell 0 rfl;have c1 := hKM.key.cell 1 rfl;have c2 := hKM.key.cell 2 rfl;have c3 := hKM.key.cell 3 rfl;have c4 := hKM.key.cell 4 rfl;have c5 := hKM.key.cell 5 rfl;have c6 := hKM.key.cell 6 rfl;have HKM := Hh hKM;have hRR := hKM.res;clear hKM;go_wp2_with (with_reducible refine stop_store ?_)
  refine wpList_store_item rfl _ _ _ rfl rfl _ _ rfl rfl _ _ hRR size_key rfl (one7 _ _ _ _ _ _ _ rfl rfl rfl rfl rfl rfl rfl) fun wz hRz hgz => ?_
  have hdz := HKM.out.dealt.grownRow (row := some w.heap.size) (by rintro q ⟨⟩; exact HKM.out.hR) (by rintro q ⟨⟩; exact HKM.out.wR) HKM.out.gW hgz;clear HKM hRR hgz c0 c1 c2 c3 c4 c5 c6;go_wp2_with fail
  refine ret_row rfl rfl hRz rfl rfl size_key rfl ?_
  obtain rfl := HN2.out;obtain rfl := HN9.out
  exact ⟨⟨4, 0, alg, l2, [], [], l9⟩, ⟨A2, c2, none, 0, none, 0, A9, c9⟩, _, rfl, hdz, ⟨by dsimp only; omega, by dsimp only; omega, by have := HALG.out; dsimp only; omega, HB2.out, IsBytes.nil _, IsBytes.nil _, HB9.out⟩, valid_sym HALG.out (by have := HL2.out; omega) HL9.out.1 HL9.out.2⟩
 ·have hr0 : ((r : Int) == 0) = false := by rw [beq_eq_false_iff_ne]; omega
  have hr1 : ((r : Int) = 0) = False := eq_false (by omega);clear hr h0;go_upto_region 5 with fail
  go_cut [5] (fun s5 wx => ∃ v, (v = 4 ∨ v = 6) ∧ KM w H g w.heap.size Kb (keyC 1 v alg A2 n2 c2 none 0 0 none 0 0 none 0 0) wx H2)
  case first =>
   replace hKM := hKM.drew
   refine wp_region_waysZ 8 (fun _ => True) (by kernel_rfl) (trivial) (fun hHeld => ?_)
   refine Zk 1 rfl hHeld ?_
   refine Zk 5 rfl hHeld ?_
   refine WaysZ.two (i := 0) (j := 2) rfl rfl (by kernel_rfl) (fun K hK => ?_) (fun K hK => ?_)
   ·go_simp
    have hLit := hKM.lit #[.int .i64 4, .int .i64 6] 3
    try (simp only [drew_heap] at hLit)
    replace hKM := hKM.alloc (.cells #[.int .i64 4, .int .i64 6] 3)
    refine hK.out _ _ (fun _ => ?_) (fun hHeld => ?_)
    ·exact trivial
    clear hK K;have hHeld := hHeld (by decide)
    try simp only [Act.put, zz1, zz2, zz3, zz4, zz5, zz6]
    refine Zo 2 rfl fun K hK => ?_
    go_simp
    refine (deck_Next _ hKM.dealt.deck 2 (by omega) (by omega)).mono ?_
    rintro e w7 ⟨j, rfl, hj, hd7⟩
    replace hKM := hKM.step hd7
    try (replace hLit := And.intro (hLit.1.dealt hd7 hLit.2.1) hLit.2)
    refine hK.out _ _ (fun _ => ?_) (fun hHeld => ?_)
    ·exact trivial
    clear hK K;have hHeld := hHeld (by decide)
    try simp only [Act.put, zz1, zz2, zz3, zz4, zz5, zz6]
    refine Zk 3 rfl hHeld ?_
    refine WaysZ.two (i := 4) (j := 6) rfl rfl (by kernel_rfl) (fun K hK => ?_) (fun K hK => ?_)
    ·obtain ⟨v, hc, hP⟩ := hLit.1.pick isCrv (by kernel_rfl) j (by simp; omega);obtain ⟨v, rfl, hv⟩ := isCrv_spec hP;go_simp
     refine hK.out _ _ (fun _ => ?_) (fun hHeld => ?_)
     ·exact trivial
     clear hK K;have hHeld := hHeld (by decide)
     try simp only [Act.put, zz1, zz2, zz3, zz4, zz5, zz6]
     refine Zo 6 rfl fun K hK => ?_
     rw [if_pos (by rfl)]
     refine wp_store_cell _ _ _ rfl Kb 0 (.int .i64 1) rfl rfl _ _ hKM.key (by kernel_rfl) (by simp) rfl fun wa hBa hga => ?_
     replace hKM := hKM.set (kc' := keyC 1 0 alg A2 n2 c2 none 0 0 none 0 0 none 0 0) hBa hga
     try (replace hLit := And.intro (hLit.1.grown hga (fun e => by injection e with e; exact hLit.2.2 e.symm)) hLit.2)
     refine hK.out _ _ (fun _ => ?_) (fun hHeld => ?_)
     ·exact trivial
     clear hK K;have hHeld := hHeld (by decide)
     try simp only [Act.put, zz1, zz2, zz3, zz4, zz5, zz6]
     refine Zk 7 rfl hHeld ?_
     refine Zo 8 rfl fun K hK => ?_
     rw [if_pos (by rfl)]
     refine wp_store_cell _ _ _ rfl Kb 1 (.int .i64 v) rfl rfl _ _ hKM.key (by kernel_rfl) (by simp) rfl fun wb hBb hgb => ?_
     replace hKM := hKM.set (kc' := keyC 1 v alg A2 n2 c2 none 0 0 none 0 0 none 0 0) hBb hgb
     refine hK.out _ _ (fun h => absurd h (by decide)) (fun _ => ?_)
     clear hK K
     try simp only [Act.put, zz1, zz2, zz3, zz4, zz5, zz6]
     refine WaysZ.done (by kernel_rfl) ?_
     go_wp2_with fail
     go_meet
     exact ⟨v, hv, hKM⟩
    ·rw [if_pos (by rfl)]
     refine wp_store_cell _ _ _ rfl Kb 0 (.int .i64 1) rfl rfl _ _ hKM.key (by kernel_rfl) (by simp) rfl fun wa hBa hga => ?_
     replace hKM := hKM.set (kc' := keyC 1 0 alg A2 n2 c2 none 0 0 none 0 0 none 0 0) hBa hga
     try (replace hLit := And.intro (hLit.1.grown hga (fun e => by injection e with e; exact hLit.2.2 e.symm)) hLit.2)
     refine hK.out _ _ (fun _ => ?_) (fun hHeld => ?_)
     ·exact trivial
     clear hK K;have hHeld := hHeld (by decide)
     try simp only [Act.put, zz1, zz2, zz3, zz4, zz5, zz6]
     refine Zo 4 rfl fun K hK => ?_
     obtain ⟨v, hc, hP⟩ := hLit.1.pick isCrv (by kernel_rfl) j (by simp; omega);obtain ⟨v, rfl, hv⟩ := isCrv_spec hP;go_simp
     refine hK.out _ _ (fun _ => ?_) (fun hHeld => ?_)
     ·exact trivial
     clear hK K;have hHeld := hHeld (by decide)
     try simp only [Act.put, zz1, zz2, zz3, zz4, zz5, zz6]
     refine Zk 7 rfl hHeld ?_
     refine Zo 8 rfl fun K hK => ?_
     rw [if_pos (by rfl)]
     refine wp_store_cell _ _ _ rfl Kb 1 (.int .i64 v) rfl rfl _ _ hKM.key (by kernel_rfl) (by simp) rfl fun wb hBb hgb => ?_
     replace hKM := hKM.set (kc' := keyC 1 v alg A2 n2 c2 none 0 0 none 0 0 none 0 0) hBb hgb
     refine hK.out _ _ (fun h => absurd h (by decide)) (fun _ => ?_)
     clear hK K
     try simp only [Act.put, zz1, zz2, zz3, zz4, zz5, zz6]
     refine WaysZ.done (by kernel_rfl) ?_
     go_wp2_with fail
     go_meet
     exact ⟨v, hv, hKM⟩
   ·go_simp
    refine (deck_Next _ hKM.dealt.deck 2 (by omega) (by omega)).mono ?_
    rintro e w7 ⟨j, rfl, hj, hd7⟩
    replace hKM := hKM.step hd7
    try (replace hLit := And.intro (hLit.1.dealt hd7 hLit.2.1) hLit.2)
    refine hK.out _ _ (fun _ => ?_) (fun hHeld => ?_)
    ·exact trivial
    clear hK K;have hHeld := hHeld (by decide)
    try simp only [Act.put, zz1, zz2, zz3, zz4, zz5, zz6]
    refine WaysZ.two (i := 0) (j := 6) rfl rfl (by kernel_rfl) (fun K hK => ?_) (fun K hK => ?_)
    ·go_simp
     have hLit := hKM.lit #[.int .i64 4, .int .i64 6] 3
     try (simp only [drew_heap] at hLit)
     replace hKM := hKM.alloc (.cells #[.int .i64 4, .int .i64 6] 3)
     refine hK.out _ _ (fun _ => ?_) (fun hHeld => ?_)
     ·exact trivial
     clear hK K;have hHeld := hHeld (by decide)
     try simp only [Act.put, zz1, zz2, zz3, zz4, zz5, zz6]
     refine Zk 3 rfl hHeld ?_
     refine WaysZ.two (i := 4) (j := 6) rfl rfl (by kernel_rfl) (fun K hK => ?_) (fun K hK => ?_)
     ·obtain ⟨v, hc, hP⟩ := hLit.1.pick isCrv (by kernel_rfl) j (by simp; omega);obtain ⟨v, rfl, hv⟩ := isCrv_spec hP;go_simp
      refine hK.out _ _ (fun _ => ?_) (fun hHeld => ?_)
      ·exact trivial
      clear hK K;have hHeld := hHeld (by decide)
      try simp only [Act.put, zz1, zz2, zz3, zz4, zz5, zz6]
      refine Zo 6 rfl fun K hK => ?_
      rw [if_pos (by rfl)]
      refine wp_store_cell _ _ _ rfl Kb 0 (.int .i64 1) rfl rfl _ _ hKM.key (by kernel_rfl) (by simp) rfl fun wa hBa hga => ?_
      replace hKM := hKM.set (kc' := keyC 1 0 alg A2 n2 c2 none 0 0 none 0 0 none 0 0) hBa hga
      try (replace hLit := And.intro (hLit.1.grown hga (fun e => by injection e with e; exact hLit.2.2 e.symm)) hLit.2)
      refine hK.out _ _ (fun _ => ?_) (fun hHeld => ?_)
      ·exact trivial
      clear hK K;have hHeld := hHeld (by decide)
      try simp only [Act.put, zz1, zz2, zz3, zz4, zz5, zz6]
      refine Zk 7 rfl hHeld ?_
      refine Zo 8 rfl fun K hK => ?_
      rw [if_pos (by rfl)]
      refine wp_store_cell _ _ _ rfl Kb 1 (.int .i64 v) rfl rfl _ _ hKM.key (by kernel_rfl) (by simp) rfl fun wb hBb hgb => ?_
      replace hKM := hKM.set (kc' := keyC 1 v alg A2 n2 c2 none 0 0 none 0 0 none 0 0) hBb hgb
      refine hK.out _ _ (fun h => absurd h (by decide)) (fun _ => ?_)
      clear hK K
      try simp only [Act.put, zz1, zz2, zz3, zz4, zz5, zz6]
      refine WaysZ.done (by kernel_rfl) ?_
      go_wp2_with fail
      go_meet
      exact ⟨v, hv, hKM⟩
     ·rw [if_pos (by rfl)]
      refine wp_store_cell _ _ _ rfl Kb 0 (.int .i64 1) rfl rfl _ _ hKM.key (by kernel_rfl) (by simp) rfl fun wa hBa hga => ?_
      replace hKM := hKM.set (kc' := keyC 1 0 alg A2 n2 c2 none 0 0 none 0 0 none 0 0) hBa hga
      try (replace hLit := And.intro (hLit.1.grown hga (fun e => by injection e with e; exact hLit.2.2 e.symm)) hLit.2)
      refine hK.out _ _ (fun _ => ?_) (fun hHeld => ?_)
      ·exact trivial
      clear hK K;have hHeld := hHeld (by decide)
      try simp only [Act.put, zz1, zz2, zz3, zz4, zz5, zz6]
      refine Zo 4 rfl fun K hK => ?_
      obtain ⟨v, hc, hP⟩ := hLit.1.pick isCrv (by kernel_rfl) j (by simp; omega);obtain ⟨v, rfl, hv⟩ := isCrv_spec hP;go_simp
      refine hK.out _ _ (fun _ => ?_) (fun hHeld => ?_)
      ·exact trivial
      clear hK K;have hHeld := hHeld (by decide)
      try simp only [Act.put, zz1, zz2, zz3, zz4, zz5, zz6]
      refine Zk 7 rfl hHeld ?_
      refine Zo 8 rfl fun K hK => ?_
      rw [if_pos (by rfl)]
      refine wp_store_cell _ _ _ rfl Kb 1 (.int .i64 v) rfl rfl _ _ hKM.key (by kernel_rfl) (by simp) rfl fun wb hBb hgb => ?_
      replace hKM := hKM.set (kc' := keyC 1 v alg A2 n2 c2 none 0 0 none 0 0 none 0 0) hBb hgb
      refine hK.out _ _ (fun h => absurd h (by decide)) (fun _ => ?_)
      clear hK K
      try simp only [Act.put, zz1, zz2, zz3, zz4, zz5, zz6]
      refine WaysZ.done (by kernel_rfl) ?_
      go_wp2_with fail
      go_meet
      exact ⟨v, hv, hKM⟩
    ·rw [if_pos (by rfl)]
     refine wp_store_cell _ _ _ rfl Kb 0 (.int .i64 1) rfl rfl _ _ hKM.key (by kernel_rfl) (by simp) rfl fun wa hBa hga => ?_
     replace hKM := hKM.set (kc' := keyC 1 0 alg A2 n2 c2 none 0 0 none 0 0 none 0 0) hBa hga
     try (replace hLit := And.intro (hLit.1.grown hga (fun e => by injection e with e; exact hLit.2.2 e.symm)) hLit.2)
     refine hK.out _ _ (fun _ => ?_) (fun hHeld => ?_)
     ·exact trivial
     clear hK K;have hHeld := hHeld (by decide)
     try simp only [Act.put, zz1, zz2, zz3, zz4, zz5, zz6]
     refine Zo 0 rfl fun K hK => ?_
     go_simp
     have hLit := hKM.lit #[.int .i64 4, .int .i64 6] 3
     try (simp only [drew_heap] at hLit)
     replace hKM := hKM.alloc (.cells #[.int .i64 4, .int .i64 6] 3)
     refine hK.out _ _ (fun _ => ?_) (fun hHeld => ?_)
     ·exact trivial
     clear hK K;have hHeld := hHeld (by decide)
     try simp only [Act.put, zz1, zz2, zz3, zz4, zz5, zz6]
     refine Zk 3 rfl hHeld ?_
     refine Zo 4 rfl fun K hK => ?_
     obtain ⟨v, hc, hP⟩ := hLit.1.pick isCrv (by kernel_rfl) j (by simp; omega);obtain ⟨v, rfl, hv⟩ := isCrv_spec hP;go_simp
     refine hK.out _ _ (fun _ => ?_) (fun hHeld => ?_)
     ·exact trivial
     clear hK K;have hHeld := hHeld (by decide)
     try simp only [Act.put, zz1, zz2, zz3, zz4, zz5, zz6]
     refine Zk 7 rfl hHeld ?_
     refine Zo 8 rfl fun K hK => ?_
     rw [if_pos (by rfl)]
     refine wp_store_cell _ _ _ rfl Kb 1 (.int .i64 v) rfl rfl _ _ hKM.key (by kernel_rfl) (by simp) rfl fun wb hBb hgb => ?_
     replace hKM := hKM.set (kc' := keyC 1 v alg A2 n2 c2 none 0 0 none 0 0 none 0 0) hBb hgb
     refine hK.out _ _ (fun h => absurd h (by decide)) (fun _ => ?_)
     clear hK K
     try simp only [Act.put, zz1, zz2, zz3, zz4, zz5, zz6]
     refine WaysZ.done (by kernel_rfl) ?_
     go_wp2_with fail
     go_meet
     exact ⟨v, hv, hKM⟩
  case rest =>
   clear hKM;obtain ⟨v, hv, hKM⟩ := hcut;have HV := Hh hv;clear hv;go_wp2_with fail
   refine (deck_Next _ hKM.dealt.deck 3 (by omega) (by omega)).mono ?_
   rintro e wq ⟨r2, rfl, hr2, hdq⟩
   replace hKM := hKM.step hdq;replace HB2 := Hh (HB2.out.mono hdq.le);clear hdq
   rcases (by omega : r2 = 0 ∨ r2 = 1 ∨ r2 = 2) with rfl | rfl | rfl
   ·clear hr2;go_wp2_with fail
    refine (deck_Next _ hKM.dealt.deck 1073741824 (by omega) (by omega)).mono ?_
    rintro e wn1 ⟨j1, rfl, hj1, hdn1⟩
    replace hKM := hKM.step hdn1;replace HB2 := Hh (HB2.out.mono hdn1.le);clear hj1 hdn1;go_wp2_with fail
    refine (mk_Seed _ _).mono ?_
    rintro e ws1 ⟨AS1, cs1, ls1, rfl, hls1, hfs1⟩
    obtain ⟨HS1, hGS1, hbs1, hjk⟩ := Fresh.snapB hKM.dealt.holds hfs1;clear hjk;replace hKM := hKM.grow hGS1;replace HB2 := Hh (HB2.out.mono hGS1.le);have hS1 := Hh (And.intro hbs1 hls1);clear hls1 hfs1 hGS1 hbs1;go_wp2_with (with_reducible refine stop_store ?_)
    refine wpList_store_cell rfl _ _ _ rfl rfl Kb 4 (.slice AS1 32 cs1) rfl rfl _ _ hKM.key (by kernel_rfl) (by simp) rfl fun wt1 hBt hgt => ?_
    replace hKM := hKM.set (kc' := keyC 1 v alg A2 n2 c2 AS1 32 cs1 none 0 0 none 0 0) hBt hgt;clear hBt hgt;have c0 := hKM.key.cell 0 rfl;have c1 := hKM.key.cell 1 rfl;have c2 := hKM.key.cell 2 rfl;have c3 := hKM.key.cell 3 rfl;have c4 := hKM.key.cell 4 rfl;have c5 := hKM.key.cell 5 rfl;have c6 := hKM.key.cell 6 rfl;have HKM := Hh hKM;have hRR := hKM.res;clear hKM;go_wp2_with (with_reducible refine stop_store ?_)
    refine wpList_store_item rfl _ _ _ rfl rfl _ _ rfl rfl _ _ hRR size_key rfl (one7 _ _ _ _ _ _ _ rfl rfl rfl rfl rfl rfl rfl) fun wz hRz hgz => ?_
    have hdz := HKM.out.dealt.grownRow (row := some w.heap.size) (by rintro q ⟨⟩; exact HKM.out.hR) (by rintro q ⟨⟩; exact HKM.out.wR) HKM.out.gW hgz;clear HKM hRR hgz c0 c1 c2 c3 c4 c5 c6;go_wp2_with fail
    refine ret_row rfl rfl hRz rfl rfl size_key rfl ?_
    obtain rfl := HN2.out;have hz1 := hS1.out.2
    exact ⟨⟨1, v, alg, l2, ls1, [], []⟩, ⟨A2, c2, AS1, cs1, none, 0, none, 0⟩, _, by rw [keyQ]; simp only [*]; rfl, hdz, ⟨by dsimp only; omega, by have := HV.out; dsimp only; omega, by have := HALG.out; dsimp only; omega, HB2.out, hS1.out.1, IsBytes.nil _, IsBytes.nil _⟩, valid_okp HV.out HALG.out (by have := HL2.out; omega) (.inr hS1.out.2) (.inl rfl) (by have := hS1.out.2; simp; omega)⟩
   ·clear hr2;go_wp2_with fail
    refine (deck_Next _ hKM.dealt.deck 1073741824 (by omega) (by omega)).mono ?_
    rintro e wn1 ⟨j1, rfl, hj1, hdn1⟩
    replace hKM := hKM.step hdn1;replace HB2 := Hh (HB2.out.mono hdn1.le);clear hj1 hdn1;go_wp2_with fail
    refine (mk_Seed _ _).mono ?_
    rintro e ws1 ⟨AS1, cs1, ls1, rfl, hls1, hfs1⟩
    obtain ⟨HS1, hGS1, hbs1, hjk⟩ := Fresh.snapB hKM.dealt.holds hfs1;clear hjk;replace hKM := hKM.grow hGS1;replace HB2 := Hh (HB2.out.mono hGS1.le);have hS1 := Hh (And.intro hbs1 hls1);clear hls1 hfs1 hGS1 hbs1;go_wp2_with (with_reducible refine stop_store ?_)
    refine wpList_store_cell rfl _ _ _ rfl rfl Kb 5 (.slice AS1 32 cs1) rfl rfl _ _ hKM.key (by kernel_rfl) (by simp) rfl fun wt1 hBt hgt => ?_
    replace hKM := hKM.set (kc' := keyC 1 v alg A2 n2 c2 none 0 0 AS1 32 cs1 none 0 0) hBt hgt;clear hBt hgt;have c0 := hKM.key.cell 0 rfl;have c1 := hKM.key.cell 1 rfl;have c2 := hKM.key.cell 2 rfl;have c3 := hKM.key.cell 3 rfl;have c4 := hKM.key.cell 4 rfl;have c5 := hKM.key.cell 5 rfl;have c6 := hKM.key.cell 6 rfl;have HKM := Hh hKM;have hRR := hKM.res;clear hKM;go_wp2_with (with_reducible refine stop_store ?_)
    refine wpList_store_item rfl _ _ _ rfl rfl _ _ rfl rfl _ _ hRR size_key rfl (one7 _ _ _ _ _ _ _ rfl rfl rfl rfl rfl rfl rfl) fun wz hRz hgz => ?_
    have hdz := HKM.out.dealt.grownRow (row := some w.heap.size) (by rintro q ⟨⟩; exact HKM.out.hR) (by rintro q ⟨⟩; exact HKM.out.wR) HKM.out.gW hgz;clear HKM hRR hgz c0 c1 c2 c3 c4 c5 c6;go_wp2_with fail
    refine ret_row rfl rfl hRz rfl rfl size_key rfl ?_
    obtain rfl := HN2.out;have hz1 := hS1.out.2
    exact ⟨⟨1, v, alg, l2, [], ls1, []⟩, ⟨A2, c2, none, 0, AS1, cs1, none, 0⟩, _, by rw [keyQ]; simp only [*]; rfl, hdz, ⟨by dsimp only; omega, by have := HV.out; dsimp only; omega, by have := HALG.out; dsimp only; omega, HB2.out, IsBytes.nil _, hS1.out.1, IsBytes.nil _⟩, valid_okp HV.out HALG.out (by have := HL2.out; omega) (.inl rfl) (.inr hS1.out.2) (by have := hS1.out.2; simp; omega)⟩
   ·clear hr2;go_wp2_with fail
    refine (deck_Next _ hKM.dealt.deck 1073741824 (by omega) (by omega)).mono ?_
    rintro e wn1 ⟨j1, rfl, hj1, hdn1⟩
    replace hKM := hKM.step hdn1;replace HB2 := Hh (HB2.out.mono hdn1.le);clear hj1 hdn1;go_wp2_with fail
    refine (mk_Seed _ _).mono ?_
    rintro e ws1 ⟨AS1, cs1, ls1, rfl, hls1, hfs1⟩
    obtain ⟨HS1, hGS1, hbs1, hjk⟩ := Fresh.snapB hKM.dealt.holds hfs1;clear hjk;replace hKM := hKM.grow hGS1;replace HB2 := Hh (HB2.out.mono hGS1.le);have hS1 := Hh (And.intro hbs1 hls1);clear hls1 hfs1 hGS1 hbs1;go_wp2_with fail
    refine (deck_Next _ hKM.dealt.deck 1073741824 (by omega) (by omega)).mono ?_
    rintro e wn2 ⟨j2, rfl, hj2, hdn2⟩
    replace hKM := hKM.step hdn2;replace HB2 := Hh (HB2.out.mono hdn2.le);replace hS1 := Hh (And.intro (hS1.out.1.mono hdn2.le) hS1.out.2);clear hj2 hdn2;go_wp2_with fail
    refine (mk_Seed _ _).mono ?_
    rintro e ws2 ⟨AS2, cs2, ls2, rfl, hls2, hfs2⟩
    obtain ⟨HS2, hGS2, hbs2, hjk⟩ := Fresh.snapB hKM.dealt.holds hfs2;clear hjk;replace hKM := hKM.grow hGS2;replace HB2 := Hh (HB2.out.mono hGS2.le);replace hS1 := Hh (And.intro (hS1.out.1.mono hGS2.le) hS1.out.2);have hS2 := Hh (And.intro hbs2 hls2);clear hls2 hfs2 hGS2 hbs2;go_wp2_with (with_reducible refine stop_store ?_)
    refine wpList_store_cell rfl _ _ _ rfl rfl Kb 4 (.slice AS1 32 cs1) rfl rfl _ _ hKM.key (by kernel_rfl) (by simp) rfl fun wt1 hBt hgt => ?_
    replace hKM := hKM.set (kc' := keyC 1 v alg A2 n2 c2 AS1 32 cs1 none 0 0 none 0 0) hBt hgt;clear hBt hgt;go_wp2_with (with_reducible refine stop_store ?_)
    refine wpList_store_cell rfl _ _ _ rfl rfl Kb 5 (.slice AS2 32 cs2) rfl rfl _ _ hKM.key (by kernel_rfl) (by simp) rfl fun wt2 hBt hgt => ?_
    replace hKM := hKM.set (kc' := keyC 1 v alg A2 n2 c2 AS1 32 cs1 AS2 32 cs2 none 0 0) hBt hgt;clear hBt hgt;have c0 := hKM.key.cell 0 rfl;have c1 := hKM.key.cell 1 rfl;have c2 := hKM.key.cell 2 rfl;have c3 := hKM.key.cell 3 rfl;have c4 := hKM.key.cell 4 rfl;have c5 := hKM.key.cell 5 rfl;have c6 := hKM.key.cell 6 rfl;have HKM := Hh hKM;have hRR := hKM.res;clear hKM;go_wp2_with (with_reducible refine stop_store ?_)
    refine wpList_store_item rfl _ _ _ rfl rfl _ _ rfl rfl _ _ hRR size_key rfl (one7 _ _ _ _ _ _ _ rfl rfl rfl rfl rfl rfl rfl) fun wz hRz hgz => ?_
    have hdz := HKM.out.dealt.grownRow (row := some w.heap.size) (by rintro q ⟨⟩; exact HKM.out.hR) (by rintro q ⟨⟩; exact HKM.out.wR) HKM.out.gW hgz;clear HKM hRR hgz c0 c1 c2 c3 c4 c5 c6;go_wp2_with fail
    refine ret_row rfl rfl hRz rfl rfl size_key rfl ?_
    obtain rfl := HN2.out;have hz1 := hS1.out.2;have hz2 := hS2.out.2
    exact ⟨⟨1, v, alg, l2, ls1, ls2, []⟩, ⟨A2, c2, AS1, cs1, AS2, cs2, none, 0⟩, _, by rw [keyQ]; simp only [*]; rfl, hdz, ⟨by dsimp only; omega, by have := HV.out; dsimp only; omega, by have := HALG.out; dsimp only; omega, HB2.out, hS1.out.1, hS2.out.1, IsBytes.nil _⟩, valid_okp HV.out HALG.out (by have := HL2.out; omega) (.inr hS1.out.2) (.inr hS2.out.2) (by have := hS1.out.2; simp; omega)⟩
end Go.Proofs.YtmacemcajlgddaaGreatDoor
