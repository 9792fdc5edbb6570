/- squeezed. Walks: the comparison of two valid -/
import Derived.Test.YtgaoknihklmakaaGreatDoorK17
import Derived.Test.YtgaoknihklmakaaGreatDoorK07
import Derived.Test.YtgaoknihklmakaaGreatDoorK02
import Derived.Test.YtgaoknihklmakaaGreatDoorK08
import Derived.Test.YtgaoknihklmakaaGreatDoorK05
import Derived.Test.YtgaoknihklmakaaGreatDoorK10
import Derived.Test.YtgaoknihklmakaaGreatDoorK00
import Derived.Test.YtgaoknihklmakaaGreatDoorK03
import Derived.Test.YtgaoknihklmakaaGreatDoorK01
import Derived.Test.YtgaoknihklmakaaGreatDoorK06
set_option linter.unusedVariables false
set_option linter.unusedSimpArgs false
set_option maxRecDepth 100000
set_option maxHeartbeats 51200000
namespace Go.Proofs.YtgaoknihklmakaaGreatDoor
open Go.RowKit
theorem cbor_Cmp {H : Snap} (hTab : Tabs H) {x y : Itm} {xa : Option Addr} {xb : Nat} {xc : Option Addr} {xd : Nat} {ya : Option Addr} {yb : Nat} {yc : Option Addr} {yd : Nat} (hx : IsItem H xa xb xc xd x) (hy : IsItem H ya yb yc yd y)
  (hvx : validP x = true) (hvy : validP y = true) (w : World) (hH : Holds w H) :
  Calls Tryz.prog 51 #[itemV x xa xb xc xd, itemV y ya yb yc yd] w fun e w' => e = .returned (.int .i64 (Lib.compareBytes (encB x) (encB y))) ∧ Below w.heap.size w w' := by
 have hX := (Blk.new w 75 #[.int .i64 x.kind, .int .u64 x.n, .slice xa x.bytes.length xb, .slice xc x.items.length xd]).alloc (itemO y ya yb yc yd);have hY := Blk.new (w.alloc (itemO x xa xb xc xd)) 75 #[.int .i64 y.kind, .int .u64 y.n, .slice ya y.bytes.length yb, .slice yc y.items.length yd];rw [size_alloc] at hY;have hG := ((Grows.refl hH).alloc (itemO x xa xb xc xd)).alloc (itemO y ya yb yc yd);have HV := Hh (And.intro hvx hvy);have HX := Hh (And.intro (validP_spec hvx) (validP_spec hvy));have HT := Hh hTab;have HI := Hh (And.intro hx hy);have a0 := hX.cell 0 rfl;have a1 := hX.cell 1 rfl;have a2 := hX.cell 2 rfl;have a3 := hX.cell 3 rfl;clear hvx hvy hTab hx hy hH;go_enter Tryz.func51, Tryz.ntmps51
 go_wp2_with fail
 refine (cbor_Valid HT.out HI.out.1.arg _ hG.holds).mono ?_
 rintro e w1 ⟨rfl, hb1⟩
 rw [HV.out.1];replace hX := hX.below hb1;replace hY := hY.below hb1;replace hG := hG.below_ hb1;clear hb1 a0 a1 a2 a3;have b0 := hY.cell 0 rfl;have b1 := hY.cell 1 rfl;have b2 := hY.cell 2 rfl;have b3 := hY.cell 3 rfl;go_wp2_with fail
 refine (cbor_Valid HT.out HI.out.2.arg _ hG.holds).mono ?_
 rintro e w2 ⟨rfl, hb2⟩
 rw [HV.out.2];replace hX := hX.below hb2;replace hY := hY.below hb2;replace hG := hG.below_ hb2;clear hb2 b0 b1 b2 b3;go_upto_region 3 with fail
 replace hX := hX.drew;replace hY := hY.drew;replace hG := hG.drew
 refine wp_region_waysZ 5 (fun wx => (wx.cell? ⟨w.heap.size, 0, none⟩ = some (.int .i64 x.kind) ∧ wx.cell? ⟨w.heap.size, 1, none⟩ = some (.int .u64 x.n) ∧ wx.cell? ⟨w.heap.size, 2, none⟩ = some (.slice xa x.bytes.length xb) ∧ wx.cell? ⟨w.heap.size, 3, none⟩ = some (.slice xc x.items.length xd)) ∧ (wx.cell? ⟨w.heap.size + 1, 0, none⟩ = some (.int .i64 y.kind) ∧ wx.cell? ⟨w.heap.size + 1, 1, none⟩ = some (.int .u64 y.n) ∧ wx.cell? ⟨w.heap.size + 1, 2, none⟩ = some (.slice ya y.bytes.length yb) ∧ wx.cell? ⟨w.heap.size + 1, 3, none⟩ = some (.slice yc y.items.length yd))) (by kernel_rfl) (⟨⟨hX.cell 0 rfl, hX.cell 1 rfl, hX.cell 2 rfl, hX.cell 3 rfl⟩, ⟨hY.cell 0 rfl, hY.cell 1 rfl, hY.cell 2 rfl, hY.cell 3 rfl⟩⟩) (fun hHeld => ?_)
 refine Zk 0 rfl hHeld ?_
 refine Zk 2 rfl hHeld ?_
 refine Zo 1 rfl fun K hK => ?_
 go_simp
 refine (cbor_add x H _ _ _ _ _ _ _ _ _ _ (.slice none 0 0) [] HX.out.1.1 HI.out.1.arg hG.holds (OwnB.nil _ _) (Nat.le_refl _) (by simp [Value.ownBlock]) (by have := HX.out.1.2.2; simp; omega)).mono ?_
 rintro e w5 ⟨r5, rfl, hO5, hg5, hjk⟩
 have hb5 := grown_none hg5;obtain ⟨A5, c5, rfl, hl5, hm5, hs5⟩ := OwnB.form hO5;replace hX := hX.below hb5;replace hY := hY.below hb5;replace hG := hG.below_ hb5;clear hO5 hg5 hb5 hjk hl5 hm5
 refine Ko hK ?_ fun hHeld => ?_
 ·exact ⟨⟨hX.cell 0 rfl, hX.cell 1 rfl, hX.cell 2 rfl, hX.cell 3 rfl⟩, ⟨hY.cell 0 rfl, hY.cell 1 rfl, hY.cell 2 rfl, hY.cell 3 rfl⟩⟩
 clear hK K
 refine Zo 3 rfl fun K hK => ?_
 go_simp
 refine (cbor_add y H _ _ _ _ _ _ _ _ _ _ (.slice none 0 0) [] HX.out.2.1 HI.out.2.arg hG.holds (OwnB.nil _ _) (Nat.le_refl _) (by simp [Value.ownBlock]) (by have := HX.out.2.2.2; simp; omega)).mono ?_
 rintro e w6 ⟨r6, rfl, hO6, hg6, hjk⟩
 have hb6 := grown_none hg6;obtain ⟨A6, c6, rfl, hl6, hm6, hs6⟩ := OwnB.form hO6;replace hX := hX.below hb6;replace hY := hY.below hb6;replace hs5 := hs5.below hb6;replace hG := hG.below_ hb6;clear hO6 hg6 hb6 hjk hl6 hm6
 refine Ko hK ?_ fun hHeld => ?_
 ·exact ⟨⟨hX.cell 0 rfl, hX.cell 1 rfl, hX.cell 2 rfl, hX.cell 3 rfl⟩, ⟨hY.cell 0 rfl, hY.cell 1 rfl, hY.cell 2 rfl, hY.cell 3 rfl⟩⟩
 clear hK K
 refine Zo 4 rfl fun K hK => ?_
 go_simp
 refine (bytes_Compare _ A5 A6 (encB x) (encB y) _ _ c5 c6 rfl rfl hs5 hs6).mono ?_
 rintro e w7 ⟨rfl, rfl⟩
 refine Ko hK ?_ fun hHeld => ?_
 ·exact ⟨⟨hX.cell 0 rfl, hX.cell 1 rfl, hX.cell 2 rfl, hX.cell 3 rfl⟩, ⟨hY.cell 0 rfl, hY.cell 1 rfl, hY.cell 2 rfl, hY.cell 3 rfl⟩⟩
 clear hK K
 refine Zo 5 rfl fun K hK => ?_
 go_simp
 refine Kz hK ?_
 clear hK K
 refine WaysZ.done (by kernel_rfl) ?_
 clear hHeld;go_wp2_with fail
 go_ret
 exact ⟨rfl, hG.below⟩
theorem KN.far {W0 w w' : World} {H Hr : Snap} {R K b : Nat} {kc : Array Value} (h : KN W0 H R K kc w Hr) (hg : w.grownBy w' (some b)) (hn : Hr b = none) (hb : W0.heap.size ≤ b) (h1 : b ≠ R) (h2 : b ≠ K) : KN W0 H R K kc w' Hr :=
 ⟨h.grows.grownOwn hn hb hg, h.res.grown hg (fun e => by injection e with e; exact h1 e), h.key.grown hg (fun e => by injection e with e; exact h2 e), h.hR, h.hK, h.neRK, h.wR, h.wK⟩
def ents1 (K : Nat) : List (Int × Value) := [(1, .pointer (some ⟨K, 0, none⟩)), (3, .pointer (some ⟨K, 2, none⟩)), (-1, .pointer (some ⟨K, 1, none⟩))]
def ents2 (K : Nat) : List (Int × Value) := [(2, .pointer (some ⟨K, 3, none⟩)), (-1, .pointer (some ⟨K, 6, none⟩)), (-2, .pointer (some ⟨K, 4, none⟩)), (-4, .pointer (some ⟨K, 5, none⟩))]
structure FM (W0 : World) (H : Snap) (R K M1 M2 : Nat) (xc kc : Array Value) (w : World) (Hr : Snap) : Prop where
 kn : KN W0 H R K kc w Hr
 box : Blk w W0.heap.size 75 xc
 m1 : MapIs w M1 (ents1 K)
 m2 : MapIs w M2 (ents2 K)
 n1 : K ≠ M1
 n2 : K ≠ M2
 nb : K ≠ W0.heap.size
section
variable {W0 w w' : World} {H Hr Hs : Snap} {R K M1 M2 : Nat} {xc kc kc' : Array Value}
theorem FM.grow (h : FM W0 H R K M1 M2 xc kc w Hr) (k : Grows w Hr w' Hs) : FM W0 H R K M1 M2 xc kc w' Hs :=
 ⟨h.kn.grow k, h.box.below k.below, h.m1.below k.below, h.m2.below k.below, h.n1, h.n2, h.nb⟩
theorem FM.below (h : FM W0 H R K M1 M2 xc kc w Hr) (k : Below w.heap.size w w') : FM W0 H R K M1 M2 xc kc w' Hr := h.grow (Grows.of_below h.kn.grows.holds k)
theorem FM.alloc (h : FM W0 H R K M1 M2 xc kc w Hr) (o : Obj) : FM W0 H R K M1 M2 xc kc (w.alloc o) Hr := h.below (below_box w o)
theorem FM.set (h : FM W0 H R K M1 M2 xc kc w Hr) (hB : Blk w' K 60 kc') (hg : w.grownBy w' (some K)) : FM W0 H R K M1 M2 xc kc' w' Hr :=
 ⟨h.kn.set hB hg, h.box.grown hg (fun e => by injection e with e; exact h.nb e), h.m1.grown hg (fun e => by injection e with e; exact h.n1 e), h.m2.grown hg (fun e => by injection e with e; exact h.n2 e), h.n1, h.n2, h.nb⟩
end
def FromOut (w : World) (H : Snap) (x : Itm) (e : Ending) (w' : World) : Prop :=
 (validP x = false ∧ e = .returned (.tuple #[.agg zeroK, .int .i64 1]) ∧ Below w.heap.size w w') ∨
 (validP x = true ∧ (¬ ∃ q, IsKeyI x q) ∧ e = .returned (.tuple #[.agg zeroK, .int .i64 12]) ∧ Below w.heap.size w w') ∨
 (∃ q a H', validP x = true ∧ IsKeyI x q ∧ e = .returned (.tuple #[.agg (keyQ q a), .int .i64 0]) ∧ Grows w H w' H' ∧ KeyA H' q a)
theorem kfold_cons (q : Ky) (l : List Itm) (j : Nat) (h : j + 1 < l.length) : kfoldP q (l.drop j) = match kstepP q (l[j]'(by omega)) l[j + 1] with | none => none | some q' => kfoldP q' (l.drop (j + 2)) := by
 rw [List.drop_eq_getElem_cons (by omega : j < l.length), List.drop_eq_getElem_cons h, kfoldP]
 all_goals (cases kstepP q (l[j]'(by omega)) l[j + 1] <;> rfl)
theorem no_key {x : Itm} (h : kfoldP nilKy x.items = none) : ¬ ∃ q, IsKeyI x q := fun ⟨q, hq⟩ => by rw [kfoldP_key hq] at h; cases h
theorem not_map {x : Itm} (h : ¬ x.kind = 5) : ¬ ∃ q, IsKeyI x q := fun ⟨q, hq⟩ => h (by rw [← hq.2]; rfl)
def ptr (K f : Nat) : Value := .pointer (some ⟨K, f, none⟩)
theorem lookE1_none {K : Nat} {k : Int} (h1 : ¬ k = 1) (h3 : ¬ k = 3) (h2 : ¬ k = -1) : lookE (ents1 K) k = none := by
 simp [lookE, ents1, h1, h2, h3]
theorem lookE2_none {K : Nat} {k : Int} (h1 : ¬ k = 2) (h2 : ¬ k = -1) (h3 : ¬ k = -2) (h4 : ¬ k = -4) : lookE (ents2 K) k = none := by
 simp [lookE, ents2, h1, h2, h3, h4]
theorem lookE2_ptr (K : Nat) (k : Int) : (lookE (ents2 K) k).getD (.pointer none) = .pointer none ∨ ∃ p, (lookE (ents2 K) k).getD (.pointer none) = .pointer (some p) := by
 by_cases h1 : k = 2
 ·subst h1; exact .inr ⟨_, rfl⟩
 by_cases h2 : k = -1
 ·subst h2; exact .inr ⟨_, rfl⟩
 by_cases h3 : k = -2
 ·subst h3; exact .inr ⟨_, rfl⟩
 by_cases h4 : k = -4
 ·subst h4; exact .inr ⟨_, rfl⟩
 rw [lookE2_none h1 h2 h3 h4]
 exact .inl rfl
theorem nmP_two {n : Nat} {b : List UInt8} {l : List Itm} : nmP (.mk 2 n b l) = none := by
 rw [nmP]
 split
 ·rfl
 ·rfl
theorem nmP_range {z : Itm} {n : Int} (h : nmP z = some n) : -9223372036854775808 ≤ n ∧ n ≤ 9223372036854775807 := by
 obtain ⟨k, m, b, l⟩ := z;rw [nmP] at h
 split at h
 ·cases h
 ·split at h
  ·injection h with h; omega
  ·split at h
   ·injection h with h; omega
   ·cases h
theorem key_FromItem {H : Snap} (hTab : Tabs H) {x : Itm} {ba : Option Addr} {bc : Nat} {ia : Option Addr} {ic : Nat} (hx : IsItem H ba bc ia ic x) (w : World) (hH : Holds w H) :
  Calls Tryz.prog 49 #[itemV x ba bc ia ic] w (FromOut w H x) := by
 have hX := (Blk.new w 75 #[.int .i64 x.kind, .int .u64 x.n, .slice ba x.bytes.length bc, .slice ia x.items.length ic]).alloc (.cells zeroK 60);have hR := Blk.new (w.alloc (itemO x ba bc ia ic)) 60 zeroK;rw [size_alloc] at hR;have hRn : H (w.heap.size + 1) = none := hH.none_of_ge (by omega);have hG := ((Grows.refl hH).alloc (itemO x ba bc ia ic)).alloc (.cells zeroK 60);have HT := Hh hTab;have HI := Hh hx;have hmm := @run_makeMap Tryz.prog;have a0 := hX.cell 0 rfl;have a1 := hX.cell 1 rfl;have a2 := hX.cell 2 rfl;have a3 := hX.cell 3 rfl;clear hTab hx hH;go_enter Tryz.func49, Tryz.ntmps49
 go_wp2_with fail
 refine (cbor_Valid HT.out HI.out.arg _ hG.holds).mono ?_
 rintro e w1 ⟨rfl, hb1⟩
 replace hX := hX.below hb1;replace hR := hR.below hb1;replace hG := hG.below_ hb1;clear hb1 a0 a1 a2 a3
 cases hv : validP x with
 | false =>
  have HV := Hh hv;clear hv hmm hX;go_wp2_with (with_reducible refine stop_store ?_)
  refine wpList_store_item rfl _ _ _ rfl rfl _ _ rfl rfl _ _ hR size_key rfl (one7 _ _ _ _ _ _ _ rfl rfl rfl rfl rfl rfl rfl) fun wz hRz hgz => ?_
  have hdz := hG.grownOwn hRn (by omega) hgz;go_wp2_with fail
  refine ret_row_tmp rfl rfl hRz rfl rfl size_key rfl ?_
  exact .inl ⟨HV.out, rfl, hdz.below⟩
 | true =>
 have HV := Hh hv;clear hv;obtain ⟨K, hK⟩ : ∃ K, w1.heap.size = K := ⟨_, rfl⟩
 have hKN : KN w H (w.heap.size + 1) w1.heap.size zeroK (w1.alloc (.cells zeroK 60)) H := ⟨hG.alloc _, hR.alloc _, Blk.new _ _ _, hRn, hG.holds.none_of_ge (Nat.le_refl _), by have := hR.lt; omega, by omega, hG.size⟩
 have hBX := hX.alloc (.cells zeroK 60);have hM1 : MapIs ((w1.alloc (.cells zeroK 60)).alloc (.map #[] 0)) (w1.alloc (.cells zeroK 60)).heap.size [] := MapIs.new _;replace hKN := hKN.alloc (.map #[] 0);replace hBX := hBX.alloc (.map #[] 0);rw [size_alloc] at hM1;rw [hK] at hKN hM1;have hxK : K ≠ w.heap.size := by have := hX.lt; omega
 have HKS := Hh (show w.heap.size + 1 < K by have := hR.lt; omega);have HHN := Hh (fun b (hb : K ≤ b) => hG.holds.none_of_ge (show w1.heap.size ≤ b by omega));clear hX hR hG;go_wp2_with (with_reducible refine stop_insert ?_)
 unfold Stopped
 try rw [hK]
 have hRK : w.heap.size + 1 < K := by have := hKN.res.lt; have := hKN.neRK; have hq := hBX.lt; have hk9 := HKS.out; omega
 have hMn1 : H (K + 1) = none := HHN.out _ (by have := HKS.out; omega)
 refine wpList_mapIns rfl _ _ _ rfl Tryz.underlying112 Tryz.underlying3 hM1 (1) (ptr K 0) rfl rfl rfl rfl fun wm hMm hgm => ?_
 replace hM1 := hMm;replace hKN := hKN.far hgm hMn1 (by omega) (by omega) (by omega);replace hBX := hBX.grown hgm (fun e => by injection e with e; omega);clear hMm hgm;go_wp2_with (with_reducible refine stop_insert ?_)
 refine wpList_mapIns rfl _ _ _ rfl Tryz.underlying112 Tryz.underlying3 hM1 (3) (ptr K 2) rfl rfl rfl rfl fun wm hMm hgm => ?_
 replace hM1 := hMm;replace hKN := hKN.far hgm hMn1 (by omega) (by omega) (by omega);replace hBX := hBX.grown hgm (fun e => by injection e with e; omega);clear hMm hgm;go_wp2_with (with_reducible refine stop_insert ?_)
 refine wpList_mapIns rfl _ _ _ rfl Tryz.underlying112 Tryz.underlying3 hM1 (-1) (ptr K 1) rfl rfl rfl rfl fun wm hMm hgm => ?_
 replace hM1 := hMm;replace hKN := hKN.far hgm hMn1 (by omega) (by omega) (by omega);replace hBX := hBX.grown hgm (fun e => by injection e with e; omega);clear hMm hgm;have hM2 : MapIs (wm.alloc (.map #[] 0)) wm.heap.size [] := MapIs.new _;have hMn2 : H wm.heap.size = none := hKN.grows.holds.none_of_ge (Nat.le_refl _);have h12 := hM1.lt;replace hKN := hKN.alloc (.map #[] 0);replace hBX := hBX.alloc (.map #[] 0);replace hM1 := hM1.alloc (.map #[] 0);obtain ⟨M2, hM2e⟩ : ∃ M2, wm.heap.size = M2 := ⟨_, rfl⟩
 rw [hM2e] at hM2 hMn2 h12;go_wp2_with (with_reducible refine stop_insert ?_)
 unfold Stopped
 try rw [hM2e]
 refine wpList_mapIns rfl _ _ _ rfl Tryz.underlying114 Tryz.underlying3 hM2 (2) (ptr K 3) rfl rfl rfl rfl fun wm hMm hgm => ?_
 replace hM2 := hMm;replace hKN := hKN.far hgm hMn2 (by omega) (by omega) (by omega);replace hBX := hBX.grown hgm (fun e => by injection e with e; omega);replace hM1 := hM1.grown hgm (fun e => by injection e with e; omega);clear hMm hgm;go_wp2_with (with_reducible refine stop_insert ?_)
 refine wpList_mapIns rfl _ _ _ rfl Tryz.underlying114 Tryz.underlying3 hM2 (-1) (ptr K 6) rfl rfl rfl rfl fun wm hMm hgm => ?_
 replace hM2 := hMm;replace hKN := hKN.far hgm hMn2 (by omega) (by omega) (by omega);replace hBX := hBX.grown hgm (fun e => by injection e with e; omega);replace hM1 := hM1.grown hgm (fun e => by injection e with e; omega);clear hMm hgm;go_wp2_with (with_reducible refine stop_insert ?_)
 refine wpList_mapIns rfl _ _ _ rfl Tryz.underlying114 Tryz.underlying3 hM2 (-2) (ptr K 4) rfl rfl rfl rfl fun wm hMm hgm => ?_
 replace hM2 := hMm;replace hKN := hKN.far hgm hMn2 (by omega) (by omega) (by omega);replace hBX := hBX.grown hgm (fun e => by injection e with e; omega);replace hM1 := hM1.grown hgm (fun e => by injection e with e; omega);clear hMm hgm;go_wp2_with (with_reducible refine stop_insert ?_)
 refine wpList_mapIns rfl _ _ _ rfl Tryz.underlying114 Tryz.underlying3 hM2 (-4) (ptr K 5) rfl rfl rfl rfl fun wm hMm hgm => ?_
 replace hM2 := hMm;replace hKN := hKN.far hgm hMn2 (by omega) (by omega) (by omega);replace hBX := hBX.grown hgm (fun e => by injection e with e; omega);replace hM1 := hM1.grown hgm (fun e => by injection e with e; omega);clear hMm hgm;have hFM : FM w H (w.heap.size + 1) K (K + 1) M2 #[.int .i64 x.kind, .int .u64 x.n, .slice ba x.bytes.length bc, .slice ia x.items.length ic] (keyQ nilKy ⟨none, 0, none, 0, none, 0, none, 0⟩) wm H := ⟨hKN, hBX, hM1, hM2, by omega, by omega, by omega⟩
 clear hKN hBX hM1 hM2 hmm;have a0 := hFM.box.cell 0 rfl
 by_cases h5 : x.kind = 5
 case neg =>
  have b5 : (x.kind != 5) = true := by simp [h5]
  have p5 : (x.kind = 5) = False := eq_false h5;have H5 := Hh h5;clear h5;have hRR := hFM.kn.res;have HGF := Hh hFM.kn;clear hFM;go_wp2_with (with_reducible refine stop_store ?_)
  refine wpList_store_item rfl _ _ _ rfl rfl _ _ rfl rfl _ _ hRR size_key rfl (one7 _ _ _ _ _ _ _ rfl rfl rfl rfl rfl rfl rfl) fun wz hRz hgz => ?_
  have hdz := HGF.out.grows.grownOwn HGF.out.hR HGF.out.wR hgz;clear HGF hRR hgz;go_wp2_with fail
  refine ret_row_tmp rfl rfl hRz rfl rfl size_key rfl ?_
  exact .inr (.inl ⟨HV.out, not_map H5.out, rfl, hdz.below⟩)
 have b5 : (x.kind != 5) = false := by simp [h5]
 have p5 : (x.kind = 5) = True := eq_true h5;have HEV := Hh (validP_even HV.out h5);have HKD := Hh h5;clear h5;go_wp2_with fail
 clear b5 p5 a0;go_loopw [7] (fun v7 wr => ∃ (j : Nat) (q : Ky) (a : KAd) (Hr : Snap), j ≤ x.items.length ∧ j % 2 = 0 ∧ v7 = .int .i64 (j : Int) ∧ FM w H (w.heap.size + 1) K (K + 1) M2 #[.int .i64 x.kind, .int .u64 x.n, .slice ba x.bytes.length bc, .slice ia x.items.length ic] (keyQ q a) wr Hr ∧ KeyA Hr q a ∧ kfoldP q (x.items.drop j) = kfoldP nilKy x.items) (fun v7 _ => x.items.length - (intOf v7).toNat)
 case atStart => exact ⟨0, nilKy, ⟨none, 0, none, 0, none, 0, none, 0⟩, H, Nat.zero_le _, rfl, rfl, hFM, ⟨by simp [nilKy], by simp [nilKy], by simp [nilKy], IsBytes.nil _, IsBytes.nil _, IsBytes.nil _, IsBytes.nil _⟩, by rw [List.drop_zero]⟩
 case round =>
  clear hFM;obtain ⟨j, q, a, Hr, hj, hje, rfl, hFM, hka, hfo⟩ := hrel;have HJE := Hh hje;have HKA := Hh hka;have HFO := Hh hfo;clear hje hka hfo;have a3 := hFM.box.cell 3 rfl
  by_cases hlt : j < x.items.length
  case neg =>
   have hkl : j = x.items.length := by omega
   subst hkl;clear hlt hj;have HF : Hid (kfoldP nilKy x.items = some q) := by rw [Hid, ← HFO.out, List.drop_length, kfoldP_nil]
   clear HFO;have k0 := hFM.kn.key.cell 0 rfl;have k1 := hFM.kn.key.cell 1 rfl;have k2 := hFM.kn.key.cell 2 rfl;have k3 := hFM.kn.key.cell 3 rfl;have k4 := hFM.kn.key.cell 4 rfl;have k5 := hFM.kn.key.cell 5 rfl;have k6 := hFM.kn.key.cell 6 rfl;go_wp2_with fail
   refine (key_ToItem (HT.out.mono hFM.kn.grows.le) HKA.out _ hFM.kn.grows.holds).mono ?_
   rintro e w9 ⟨v9, rfl, ya, yb, yc, yd, H9, rfl, hG9, hI9⟩
   replace hFM := (hFM.grow hG9)
   replace HKA := Hh (HKA.out.mono hG9.le);clear k0 k1 k2 k3 k4 k5 k6 a3 hG9
   cases hvq : validK q with
   | false =>
    have HNK : Hid (¬ ∃ q, IsKeyI x q) := fun ⟨q2, h2⟩ => by
     have e := HF.out;rw [kfoldP_key h2] at e;obtain rfl := Option.some.inj e;rw [h2.1] at hvq
     cases hvq
    have E : Hid (codeK q = 1 ∧ itmK q = zeroItm) := ⟨by rw [codeK, if_neg (by rw [hvq]; simp)], by rw [itmK, if_neg (by rw [hvq]; simp)]⟩
    rw [E.out.1, E.out.2];clear hvq hI9;replace hFM := hFM.alloc (itemO zeroItm ya yb yc yd);go_upto_region 22 with fail
    have hRR := hFM.kn.res;have HGF := Hh hFM.kn;clear hFM;go_wp2_with (with_reducible refine stop_store ?_)
    refine wpList_store_item rfl _ _ _ rfl rfl _ _ rfl rfl _ _ hRR size_key rfl (one7 _ _ _ _ _ _ _ rfl rfl rfl rfl rfl rfl rfl) fun wz hRz hgz => ?_
    have hdz := HGF.out.grows.grownOwn HGF.out.hR HGF.out.wR hgz;clear HGF hRR hgz;go_wp2_with fail
    refine ret_row_tmp rfl rfl hRz rfl rfl size_key rfl ?_
    exact .inr (.inl ⟨HV.out, HNK.out, rfl, hdz.below⟩)
   | true =>
    have E : Hid (codeK q = 0 ∧ itmK q = itemK q) := ⟨by rw [codeK, if_pos hvq], by rw [itmK, if_pos hvq]⟩
    have HVQ := Hh hvq;rw [E.out.1, E.out.2];rw [E.out.2] at hI9;have HVY := Hh (validP_itemK hvq);obtain ⟨y, hy⟩ : ∃ y, itemK q = y := ⟨_, rfl⟩
    have HY := Hh hy;rw [hy] at hI9 ⊢;rw [HY.out] at HVY;have HIX := Hh (And.intro (HI.out.mono hFM.kn.grows.le) hI9);replace hFM := hFM.alloc (itemO y ya yb yc yd);have x0 := hFM.box.cell 0 rfl;have x1 := hFM.box.cell 1 rfl;have x2 := hFM.box.cell 2 rfl;have x3 := hFM.box.cell 3 rfl;clear hvq hI9 hy;go_wp2_with fail
    refine (cbor_Cmp (HT.out.mono hFM.kn.grows.le) HIX.out.1 HIX.out.2 HV.out HVY.out _ hFM.kn.grows.holds).mono ?_
    rintro e w10 ⟨rfl, hb10⟩
    replace hFM := hFM.below hb10;clear hb10 x0 x1 x2 x3;obtain ⟨cm, hcm⟩ : ∃ cm, Lib.compareBytes (encB x) (encB y) = cm := ⟨_, rfl⟩
    rw [hcm]
    by_cases hc0 : cm = 0
    case neg =>
     have HNK : Hid (¬ ∃ q, IsKeyI x q) := fun ⟨q2, h2⟩ => by
      have e := HF.out;rw [kfoldP_key h2] at e;obtain rfl := Option.some.inj e;have e2 : x = y := by rw [← h2.2]; exact HY.out
      rw [e2, cmp_refl] at hcm
      exact hc0 hcm.symm
     have bc0 : (cm != 0) = true := by simp [hc0]
     have pc0 : (cm = 0) = False := eq_false hc0;clear hc0 hcm;have hRR := hFM.kn.res;have HGF := Hh hFM.kn;clear hFM;go_wp2_with (with_reducible refine stop_store ?_)
     refine wpList_store_item rfl _ _ _ rfl rfl _ _ rfl rfl _ _ hRR size_key rfl (one7 _ _ _ _ _ _ _ rfl rfl rfl rfl rfl rfl rfl) fun wz hRz hgz => ?_
     have hdz := HGF.out.grows.grownOwn HGF.out.hR HGF.out.wR hgz;clear HGF hRR hgz;go_wp2_with fail
     refine ret_row_tmp rfl rfl hRz rfl rfl size_key rfl ?_
     exact .inr (.inl ⟨HV.out, HNK.out, rfl, hdz.below⟩)
    subst hc0
    have HXY : Hid (x = y) := by
     have e3 := (cmp_zero _ _).1 hcm
     exact (encB_inj x y 0 0 [] [] (Fits.of HV.out HIX.out.1.nums) (Fits.of HVY.out HIX.out.2.nums) (by rw [e3])).1
    clear hcm;have k0 := hFM.kn.key.cell 0 rfl;have k1 := hFM.kn.key.cell 1 rfl;have k2 := hFM.kn.key.cell 2 rfl;have k3 := hFM.kn.key.cell 3 rfl;have k4 := hFM.kn.key.cell 4 rfl;have k5 := hFM.kn.key.cell 5 rfl;have k6 := hFM.kn.key.cell 6 rfl;have hRR := hFM.kn.res;have HGF := Hh hFM.kn;clear hFM;go_wp2_with (with_reducible refine stop_store ?_)
    refine wpList_store_item rfl _ _ _ rfl rfl _ _ rfl rfl _ _ hRR size_key rfl (one7 _ _ _ _ _ _ _ rfl rfl rfl rfl rfl rfl rfl) fun wz hRz hgz => ?_
    have hdz := HGF.out.grows.grownOwn HGF.out.hR HGF.out.wR hgz;clear HGF hRR hgz;go_wp2_with fail
    refine ret_row_tmp rfl rfl hRz rfl rfl size_key rfl ?_
    exact .inr (.inr ⟨q, a, _, HV.out, ⟨HVQ.out, by rw [HXY.out]; exact HY.out⟩, rfl, hdz, HKA.out⟩)
  have hlt1 : j + 1 < x.items.length := by have := HJE.out; have := HEV.out; omega
  have hl256 : x.items.length ≤ 256 := (validP_items HV.out).2.1;have hltI : (j : Int) < x.items.length := by omega
  have hltI1 : (j : Int) + 1 < x.items.length := by omega
  have hj10 : (0 : Int) ≤ (j : Int) + 1 := by omega
  have hj63 : (j : Int) + 2 ≤ 9223372036854775807 := by omega
  have HW1 : IntKind.i64.wrap ((j : Int) + 1) = (j : Int) + 1 := IntWalk.i64_in _ (by omega);obtain ⟨ib, io, hia, hel⟩ := HI.out.items (by omega);obtain ⟨y1, y2, y3, y4, q0, q1, q2, q3, hey⟩ := hel.get j hlt;obtain ⟨z1, z2, z3, z4, s0, s1, s2, s3, hez⟩ := hel.get (j + 1) hlt1;subst hia;have HST := Hh (kfold_cons q x.items j hlt1);have HZB := Hh (validP_elem HV.out (List.getElem_mem hlt1));have HJL := Hh (And.intro hlt (And.intro hlt1 hl256))
  generalize x.items[j]'hlt = y at *
  generalize x.items[j + 1]'hlt1 = z at *
  have HYZ := Hh (And.intro hey hez);have HS := Hh (And.intro s0 (And.intro s1 (And.intro s2 s3)));have hh := hFM.kn.grows.holds.mono hFM.kn.grows.le;have q0 := hh.cell q0;have q1 := hh.cell q1;have q2 := hh.cell q2;have q3 := hh.cell q3;clear hel hey hez s0 s1 s2 s3 hlt hlt1 hh hj hl256;go_wp2_with fail
  refine (key_number HYZ.out.1.arg _).mono ?_
  intro e w5 hs
  unfold NumOut at hs
  have hrest : ∃ (ok : Bool) (k : Int), e = .returned (.tuple #[.int .i64 k, .bool ok]) ∧ Below wr.heap.size wr w5 ∧ (ok = true → nmP y = some k) ∧ (ok = false → nmP y = none ∧ k = 0) := by
   cases hn : nmP y with
   | none => rw [hn] at hs; exact ⟨false, 0, hs.1, hs.2, (fun h => by cases h), (fun _ => ⟨rfl, rfl⟩)⟩
   | some k => rw [hn] at hs; exact ⟨true, k, hs.1, hs.2, (fun _ => rfl), (fun h => by cases h)⟩
  clear hs;obtain ⟨ok, k, rfl, hb5, hk1, hk2⟩ := hrest;have HKO := Hh (And.intro hk1 hk2);clear hk1 hk2;replace hFM := hFM.below hb5;clear hb5 q0 q1 q2 q3 a3;have a3 := hFM.box.cell 3 rfl;have hh := hFM.kn.grows.holds.mono hFM.kn.grows.le;have s0 := hh.cell HS.out.1;have s1 := hh.cell HS.out.2.1;have s2 := hh.cell HS.out.2.2.1;have s3 := hh.cell HS.out.2.2.2;have hP := Blk.new w5 75 #[.int .i64 z.kind, .int .u64 z.n, .slice z1 z.bytes.length z2, .slice z3 z.items.length z4];replace hFM := hFM.alloc (itemO z z1 z2 z3 z4);clear hh;go_wp2_with fail
  refine (key_number HYZ.out.2.arg _).mono ?_
  intro e w6 hs
  unfold NumOut at hs
  have hrest : ∃ (is : Bool) (n : Int), e = .returned (.tuple #[.int .i64 n, .bool is]) ∧ Below (w5.alloc (itemO z z1 z2 z3 z4)).heap.size (w5.alloc (itemO z z1 z2 z3 z4)) w6 ∧ (is = true → nmP z = some n) ∧ (is = false → nmP z = none ∧ n = 0) := by
   cases hn : nmP z with
   | none => rw [hn] at hs; exact ⟨false, 0, hs.1, hs.2, (fun h => by cases h), (fun _ => ⟨rfl, rfl⟩)⟩
   | some k => rw [hn] at hs; exact ⟨true, k, hs.1, hs.2, (fun _ => rfl), (fun h => by cases h)⟩
  clear hs;obtain ⟨is, n, rfl, hb6, hn1, hn2⟩ := hrest;have HNO := Hh (And.intro hn1 hn2);clear hn1 hn2;obtain ⟨P, hPe⟩ : ∃ P, w5.heap.size = P := ⟨_, rfl⟩
  rw [hPe] at hP ⊢;replace hFM := hFM.below hb6;replace hP := hP.below hb6;clear hb6 s0 s1 s2 s3 a3 hPe;have z0 := hP.cell 0 rfl;have zb := hP.cell 2 rfl;clear hP
  cases ok with
  | false =>
   obtain ⟨HY0, hk0⟩ := HKO.out.2 rfl;subst hk0;have HY0 := Hh HY0
   have L2 : (Instr.lookup 114 (.map (some M2)) (.int .i64 0) false).run Tryz.prog w6 = .ok (.pointer none) w6 := by
    have hlk := run_mapLook Tryz.underlying114 Tryz.underlying3 hFM.m2 (Tryz.zeroValue113 w6) (0);rw [show lookE (ents2 K) 0 = none from rfl] at hlk
    exact hlk
   have HFN : Hid (kfoldP nilKy x.items = none) := by rw [Hid, ← HFO.out, HST.out]; rw [kstepP, HY0.out]
   clear HST;have hRR := hFM.kn.res;have HGF := Hh hFM.kn;clear hFM;go_wp2_with (with_reducible refine stop_store ?_)
   refine wpList_store_item rfl _ _ _ rfl rfl _ _ rfl rfl _ _ hRR size_key rfl (one7 _ _ _ _ _ _ _ rfl rfl rfl rfl rfl rfl rfl) fun wz hRz hgz => ?_
   have hdz := HGF.out.grows.grownOwn HGF.out.hR HGF.out.wR hgz;clear HGF hRR hgz;go_wp2_with fail
   refine ret_row_tmp rfl rfl hRz rfl rfl size_key rfl ?_
   exact .inr (.inl ⟨HV.out, no_key HFN.out, rfl, hdz.below⟩)
  | true =>
  have HYK := Hh (HKO.out.1 rfl);clear HKO
  cases is with
  | true =>
   have HZN := Hh (HNO.out.1 rfl);clear HNO;have HST2 : Hid (kstepP q y z = setNum q k n) := by rw [Hid, kstepP, HYK.out]; simp only [HZN.out]
   have hzk : ¬ z.kind = 2 := fun h => by
    obtain ⟨zk, zn, zbs, zl⟩ := z;have e := HZN.out
    simp only [Itm.kind] at h
    subst h;rw [nmP_two] at e
    cases e
   have bz2 : (z.kind == 2) = false := by rw [beq_eq_false_iff_ne]; exact hzk
   have pz2 : (z.kind = 2) = False := eq_false hzk;clear hzk;have hnr : -9223372036854775808 ≤ n ∧ n ≤ 9223372036854775807 := nmP_range HZN.out;have HNR := Hh hnr;clear hnr
   by_cases hk0 : k = 1
   ·subst hk0
    have L1 : (Instr.lookup 112 (.map (some (K + 1))) (.int .i64 1) false).run Tryz.prog w6 = .ok (.pointer (some ⟨K, 0, none⟩)) w6 := by
     have hlk := run_mapLook Tryz.underlying112 Tryz.underlying3 hFM.m1 (Tryz.zeroValue111 w6) (1)
     exact hlk
    go_wp2_with (with_reducible refine stop_store ?_)
    refine wpList_store_cell rfl _ _ _ rfl rfl K 0 (.int .i64 n) rfl rfl _ _ hFM.kn.key (by kernel_rfl) (by simp) rfl fun wt hBt hgt => ?_
    replace hFM := hFM.set (kc' := keyQ { q with kty := n } a) hBt hgt;clear hBt hgt L1 z0 zb;go_wp2_with fail
    go_roundw
    case rel => exact ⟨j + 2, { q with kty := n }, a, _, by have := HJL.out; omega, by have := HJE.out; omega, by go_num, hFM, ⟨HNR.out, HKA.out.crv, HKA.out.alg, HKA.out.kid, HKA.out.x, HKA.out.d, HKA.out.k⟩, by rw [← HFO.out, HST.out, HST2.out]; rfl⟩
    case measure => have := HJL.out; simp [intOf]; omega
   by_cases hk2 : k = 3
   ·subst hk2
    have L1 : (Instr.lookup 112 (.map (some (K + 1))) (.int .i64 3) false).run Tryz.prog w6 = .ok (.pointer (some ⟨K, 2, none⟩)) w6 := by
     have hlk := run_mapLook Tryz.underlying112 Tryz.underlying3 hFM.m1 (Tryz.zeroValue111 w6) (3)
     exact hlk
    go_wp2_with (with_reducible refine stop_store ?_)
    refine wpList_store_cell rfl _ _ _ rfl rfl K 2 (.int .i64 n) rfl rfl _ _ hFM.kn.key (by kernel_rfl) (by simp) rfl fun wt hBt hgt => ?_
    replace hFM := hFM.set (kc' := keyQ { q with alg := n } a) hBt hgt;clear hBt hgt L1 z0 zb;go_wp2_with fail
    go_roundw
    case rel => exact ⟨j + 2, { q with alg := n }, a, _, by have := HJL.out; omega, by have := HJE.out; omega, by go_num, hFM, ⟨HKA.out.kty, HKA.out.crv, HNR.out, HKA.out.kid, HKA.out.x, HKA.out.d, HKA.out.k⟩, by rw [← HFO.out, HST.out, HST2.out]; rfl⟩
    case measure => have := HJL.out; simp [intOf]; omega
   by_cases hk1 : k = -1
   ·subst hk1
    have L1 : (Instr.lookup 112 (.map (some (K + 1))) (.int .i64 (-1)) false).run Tryz.prog w6 = .ok (.pointer (some ⟨K, 1, none⟩)) w6 := by
     have hlk := run_mapLook Tryz.underlying112 Tryz.underlying3 hFM.m1 (Tryz.zeroValue111 w6) ((-1))
     exact hlk
    go_wp2_with (with_reducible refine stop_store ?_)
    refine wpList_store_cell rfl _ _ _ rfl rfl K 1 (.int .i64 n) rfl rfl _ _ hFM.kn.key (by kernel_rfl) (by simp) rfl fun wt hBt hgt => ?_
    replace hFM := hFM.set (kc' := keyQ { q with crv := n } a) hBt hgt;clear hBt hgt L1 z0 zb;go_wp2_with fail
    go_roundw
    case rel => exact ⟨j + 2, { q with crv := n }, a, _, by have := HJL.out; omega, by have := HJE.out; omega, by go_num, hFM, ⟨HKA.out.kty, HNR.out, HKA.out.alg, HKA.out.kid, HKA.out.x, HKA.out.d, HKA.out.k⟩, by rw [← HFO.out, HST.out, HST2.out]; rfl⟩
    case measure => have := HJL.out; simp [intOf]; omega
   have HK0 := Hh (And.intro hk0 (And.intro hk2 hk1))
   have L1 : (Instr.lookup 112 (.map (some (K + 1))) (.int .i64 k) false).run Tryz.prog w6 = .ok (.pointer none) w6 := by
    have hlk := run_mapLook Tryz.underlying112 Tryz.underlying3 hFM.m1 (Tryz.zeroValue111 w6) (k);rw [lookE1_none hk0 hk2 hk1] at hlk
    exact hlk
   obtain ⟨u2, hu2⟩ : ∃ u2, (lookE (ents2 K) k).getD (.pointer none) = u2 := ⟨_, rfl⟩
   have L2 : (Instr.lookup 114 (.map (some M2)) (.int .i64 k) false).run Tryz.prog w6 = .ok (u2) w6 := by
    have hlk := run_mapLook Tryz.underlying114 Tryz.underlying3 hFM.m2 (Tryz.zeroValue113 w6) (k);rw [hu2] at hlk
    exact hlk
   have hu3 : u2 = .pointer none ∨ ∃ p, u2 = .pointer (some p) := by rw [← hu2]; exact lookE2_ptr K k
   clear hk0 hk1 hk2 hu2;have HFN : Hid (kfoldP nilKy x.items = none) := by rw [Hid, ← HFO.out, HST.out, HST2.out, setNum, if_neg HK0.out.1, if_neg HK0.out.2.1, if_neg HK0.out.2.2]
   clear HST
   rcases hu3 with rfl | ⟨p, rfl⟩
   ·have hRR := hFM.kn.res;have HGF := Hh hFM.kn;clear hFM;go_wp2_with (with_reducible refine stop_store ?_)
    refine wpList_store_item rfl _ _ _ rfl rfl _ _ rfl rfl _ _ hRR size_key rfl (one7 _ _ _ _ _ _ _ rfl rfl rfl rfl rfl rfl rfl) fun wz hRz hgz => ?_
    have hdz := HGF.out.grows.grownOwn HGF.out.hR HGF.out.wR hgz;clear HGF hRR hgz;go_wp2_with fail
    refine ret_row_tmp rfl rfl hRz rfl rfl size_key rfl ?_
    exact .inr (.inl ⟨HV.out, no_key HFN.out, rfl, hdz.below⟩)
   ·have hRR := hFM.kn.res;have HGF := Hh hFM.kn;clear hFM;go_wp2_with (with_reducible refine stop_store ?_)
    refine wpList_store_item rfl _ _ _ rfl rfl _ _ rfl rfl _ _ hRR size_key rfl (one7 _ _ _ _ _ _ _ rfl rfl rfl rfl rfl rfl rfl) fun wz hRz hgz => ?_
    have hdz := HGF.out.grows.grownOwn HGF.out.hR HGF.out.wR hgz;clear HGF hRR hgz;go_wp2_with fail
    refine ret_row_tmp rfl rfl hRz rfl rfl size_key rfl ?_
    exact .inr (.inl ⟨HV.out, no_key HFN.out, rfl, hdz.below⟩)
  | false =>
   obtain ⟨HZN, hn0⟩ := HNO.out.2 rfl;subst hn0;have HZN := Hh HZN;clear HNO
   by_cases hz2 : z.kind = 2
   case neg =>
    have HST2 : Hid (kstepP q y z = none) := by rw [Hid, kstepP, HYK.out]; simp only [HZN.out, if_neg hz2]
    have bz2 : (z.kind == 2) = false := by rw [beq_eq_false_iff_ne]; exact hz2
    have pz2 : (z.kind = 2) = False := eq_false hz2;clear hz2;obtain ⟨u2, hu2⟩ : ∃ u2, (lookE (ents2 K) k).getD (.pointer none) = u2 := ⟨_, rfl⟩
    have L2 : (Instr.lookup 114 (.map (some M2)) (.int .i64 k) false).run Tryz.prog w6 = .ok (u2) w6 := by
     have hlk := run_mapLook Tryz.underlying114 Tryz.underlying3 hFM.m2 (Tryz.zeroValue113 w6) (k);rw [hu2] at hlk
     exact hlk
    have hu3 : u2 = .pointer none ∨ ∃ p, u2 = .pointer (some p) := by rw [← hu2]; exact lookE2_ptr K k
    clear hu2;have HFN : Hid (kfoldP nilKy x.items = none) := by rw [Hid, ← HFO.out, HST.out, HST2.out]
    clear HST
    rcases hu3 with rfl | ⟨p, rfl⟩
    ·have hRR := hFM.kn.res;have HGF := Hh hFM.kn;clear hFM;go_wp2_with (with_reducible refine stop_store ?_)
     refine wpList_store_item rfl _ _ _ rfl rfl _ _ rfl rfl _ _ hRR size_key rfl (one7 _ _ _ _ _ _ _ rfl rfl rfl rfl rfl rfl rfl) fun wz hRz hgz => ?_
     have hdz := HGF.out.grows.grownOwn HGF.out.hR HGF.out.wR hgz;clear HGF hRR hgz;go_wp2_with fail
     refine ret_row_tmp rfl rfl hRz rfl rfl size_key rfl ?_
     exact .inr (.inl ⟨HV.out, no_key HFN.out, rfl, hdz.below⟩)
    ·have hRR := hFM.kn.res;have HGF := Hh hFM.kn;clear hFM;go_wp2_with (with_reducible refine stop_store ?_)
     refine wpList_store_item rfl _ _ _ rfl rfl _ _ rfl rfl _ _ hRR size_key rfl (one7 _ _ _ _ _ _ _ rfl rfl rfl rfl rfl rfl rfl) fun wz hRz hgz => ?_
     have hdz := HGF.out.grows.grownOwn HGF.out.hR HGF.out.wR hgz;clear HGF hRR hgz;go_wp2_with fail
     refine ret_row_tmp rfl rfl hRz rfl rfl size_key rfl ?_
     exact .inr (.inl ⟨HV.out, no_key HFN.out, rfl, hdz.below⟩)
   have HST2 : Hid (kstepP q y z = setStr q k z.bytes) := by rw [Hid, kstepP, HYK.out]; simp only [HZN.out, if_pos hz2]
   have bz2 : (z.kind == 2) = true := by rw [beq_iff_eq]; exact hz2
   have pz2 : (z.kind = 2) = True := eq_true hz2;clear hz2
   by_cases hk3 : k = 2
   ·subst hk3
    have L2 : (Instr.lookup 114 (.map (some M2)) (.int .i64 2) false).run Tryz.prog w6 = .ok (.pointer (some ⟨K, 3, none⟩)) w6 := by
     have hlk := run_mapLook Tryz.underlying114 Tryz.underlying3 hFM.m2 (Tryz.zeroValue113 w6) (2)
     exact hlk
    go_wp2_with fail
    refine (bytes_Clone _ z1 z.bytes z.bytes.length z2 rfl (by have := (validP_items HZB.out).1; omega) (Src.of_row (HYZ.out.2.mono hFM.kn.grows.le).bytes.row hFM.kn.grows.holds)).mono ?_
    rintro e w7 ⟨r7, rfl, hf7⟩
    obtain ⟨A7, c7, rfl, hjk⟩ := hf7.own.form;clear hjk;obtain ⟨H7, hG7, hb7, hjk⟩ := Fresh.snapB hFM.kn.grows.holds hf7;clear hjk hf7;replace hFM := hFM.grow hG7;replace HKA := Hh (HKA.out.mono hG7.le);have HB7 := Hh hb7;clear hG7 hb7 L2 z0 zb;go_wp2_with (with_reducible refine stop_store ?_)
    refine wpList_store_cell rfl _ _ _ rfl rfl K 3 (.slice A7 z.bytes.length c7) rfl rfl _ _ hFM.kn.key (by kernel_rfl) (by simp) rfl fun wt hBt hgt => ?_
    replace hFM := hFM.set (kc' := keyQ { q with kid := z.bytes } { a with ia := A7, ic := c7 }) hBt hgt;clear hBt hgt;go_wp2_with fail
    go_roundw
    case rel => exact ⟨j + 2, { q with kid := z.bytes }, { a with ia := A7, ic := c7 }, _, by have := HJL.out; omega, by have := HJE.out; omega, by go_num, hFM, ⟨HKA.out.kty, HKA.out.crv, HKA.out.alg, HB7.out, HKA.out.x, HKA.out.d, HKA.out.k⟩, by rw [← HFO.out, HST.out, HST2.out]; rfl⟩
    case measure => have := HJL.out; simp [intOf]; omega
   by_cases hk6 : k = -1
   ·subst hk6
    have L2 : (Instr.lookup 114 (.map (some M2)) (.int .i64 (-1)) false).run Tryz.prog w6 = .ok (.pointer (some ⟨K, 6, none⟩)) w6 := by
     have hlk := run_mapLook Tryz.underlying114 Tryz.underlying3 hFM.m2 (Tryz.zeroValue113 w6) ((-1))
     exact hlk
    go_wp2_with fail
    refine (bytes_Clone _ z1 z.bytes z.bytes.length z2 rfl (by have := (validP_items HZB.out).1; omega) (Src.of_row (HYZ.out.2.mono hFM.kn.grows.le).bytes.row hFM.kn.grows.holds)).mono ?_
    rintro e w7 ⟨r7, rfl, hf7⟩
    obtain ⟨A7, c7, rfl, hjk⟩ := hf7.own.form;clear hjk;obtain ⟨H7, hG7, hb7, hjk⟩ := Fresh.snapB hFM.kn.grows.holds hf7;clear hjk hf7;replace hFM := hFM.grow hG7;replace HKA := Hh (HKA.out.mono hG7.le);have HB7 := Hh hb7;clear hG7 hb7 L2 z0 zb;go_wp2_with (with_reducible refine stop_store ?_)
    refine wpList_store_cell rfl _ _ _ rfl rfl K 6 (.slice A7 z.bytes.length c7) rfl rfl _ _ hFM.kn.key (by kernel_rfl) (by simp) rfl fun wt hBt hgt => ?_
    replace hFM := hFM.set (kc' := keyQ { q with k := z.bytes } { a with ka := A7, kc := c7 }) hBt hgt;clear hBt hgt;go_wp2_with fail
    go_roundw
    case rel => exact ⟨j + 2, { q with k := z.bytes }, { a with ka := A7, kc := c7 }, _, by have := HJL.out; omega, by have := HJE.out; omega, by go_num, hFM, ⟨HKA.out.kty, HKA.out.crv, HKA.out.alg, HKA.out.kid, HKA.out.x, HKA.out.d, HB7.out⟩, by rw [← HFO.out, HST.out, HST2.out]; rfl⟩
    case measure => have := HJL.out; simp [intOf]; omega
   by_cases hk4 : k = -2
   ·subst hk4
    have L2 : (Instr.lookup 114 (.map (some M2)) (.int .i64 (-2)) false).run Tryz.prog w6 = .ok (.pointer (some ⟨K, 4, none⟩)) w6 := by
     have hlk := run_mapLook Tryz.underlying114 Tryz.underlying3 hFM.m2 (Tryz.zeroValue113 w6) ((-2))
     exact hlk
    go_wp2_with fail
    refine (bytes_Clone _ z1 z.bytes z.bytes.length z2 rfl (by have := (validP_items HZB.out).1; omega) (Src.of_row (HYZ.out.2.mono hFM.kn.grows.le).bytes.row hFM.kn.grows.holds)).mono ?_
    rintro e w7 ⟨r7, rfl, hf7⟩
    obtain ⟨A7, c7, rfl, hjk⟩ := hf7.own.form;clear hjk;obtain ⟨H7, hG7, hb7, hjk⟩ := Fresh.snapB hFM.kn.grows.holds hf7;clear hjk hf7;replace hFM := hFM.grow hG7;replace HKA := Hh (HKA.out.mono hG7.le);have HB7 := Hh hb7;clear hG7 hb7 L2 z0 zb;go_wp2_with (with_reducible refine stop_store ?_)
    refine wpList_store_cell rfl _ _ _ rfl rfl K 4 (.slice A7 z.bytes.length c7) rfl rfl _ _ hFM.kn.key (by kernel_rfl) (by simp) rfl fun wt hBt hgt => ?_
    replace hFM := hFM.set (kc' := keyQ { q with x := z.bytes } { a with xa := A7, xc := c7 }) hBt hgt;clear hBt hgt;go_wp2_with fail
    go_roundw
    case rel => exact ⟨j + 2, { q with x := z.bytes }, { a with xa := A7, xc := c7 }, _, by have := HJL.out; omega, by have := HJE.out; omega, by go_num, hFM, ⟨HKA.out.kty, HKA.out.crv, HKA.out.alg, HKA.out.kid, HB7.out, HKA.out.d, HKA.out.k⟩, by rw [← HFO.out, HST.out, HST2.out]; rfl⟩
    case measure => have := HJL.out; simp [intOf]; omega
   by_cases hk5 : k = -4
   ·subst hk5
    have L2 : (Instr.lookup 114 (.map (some M2)) (.int .i64 (-4)) false).run Tryz.prog w6 = .ok (.pointer (some ⟨K, 5, none⟩)) w6 := by
     have hlk := run_mapLook Tryz.underlying114 Tryz.underlying3 hFM.m2 (Tryz.zeroValue113 w6) ((-4))
     exact hlk
    go_wp2_with fail
    refine (bytes_Clone _ z1 z.bytes z.bytes.length z2 rfl (by have := (validP_items HZB.out).1; omega) (Src.of_row (HYZ.out.2.mono hFM.kn.grows.le).bytes.row hFM.kn.grows.holds)).mono ?_
    rintro e w7 ⟨r7, rfl, hf7⟩
    obtain ⟨A7, c7, rfl, hjk⟩ := hf7.own.form;clear hjk;obtain ⟨H7, hG7, hb7, hjk⟩ := Fresh.snapB hFM.kn.grows.holds hf7;clear hjk hf7;replace hFM := hFM.grow hG7;replace HKA := Hh (HKA.out.mono hG7.le);have HB7 := Hh hb7;clear hG7 hb7 L2 z0 zb;go_wp2_with (with_reducible refine stop_store ?_)
    refine wpList_store_cell rfl _ _ _ rfl rfl K 5 (.slice A7 z.bytes.length c7) rfl rfl _ _ hFM.kn.key (by kernel_rfl) (by simp) rfl fun wt hBt hgt => ?_
    replace hFM := hFM.set (kc' := keyQ { q with d := z.bytes } { a with da := A7, dc := c7 }) hBt hgt;clear hBt hgt;go_wp2_with fail
    go_roundw
    case rel => exact ⟨j + 2, { q with d := z.bytes }, { a with da := A7, dc := c7 }, _, by have := HJL.out; omega, by have := HJE.out; omega, by go_num, hFM, ⟨HKA.out.kty, HKA.out.crv, HKA.out.alg, HKA.out.kid, HKA.out.x, HB7.out, HKA.out.k⟩, by rw [← HFO.out, HST.out, HST2.out]; rfl⟩
    case measure => have := HJL.out; simp [intOf]; omega
   have HK0 := Hh (And.intro hk3 (And.intro hk6 (And.intro hk4 hk5)))
   have L2 : (Instr.lookup 114 (.map (some M2)) (.int .i64 k) false).run Tryz.prog w6 = .ok (.pointer none) w6 := by
    have hlk := run_mapLook Tryz.underlying114 Tryz.underlying3 hFM.m2 (Tryz.zeroValue113 w6) (k);rw [lookE2_none hk3 hk6 hk4 hk5] at hlk
    exact hlk
   clear hk3 hk4 hk5 hk6;have HFN : Hid (kfoldP nilKy x.items = none) := by rw [Hid, ← HFO.out, HST.out, HST2.out, setStr, if_neg HK0.out.1, if_neg HK0.out.2.1, if_neg HK0.out.2.2.1, if_neg HK0.out.2.2.2]
   clear HST;have hRR := hFM.kn.res;have HGF := Hh hFM.kn;clear hFM;go_wp2_with (with_reducible refine stop_store ?_)
   refine wpList_store_item rfl _ _ _ rfl rfl _ _ rfl rfl _ _ hRR size_key rfl (one7 _ _ _ _ _ _ _ rfl rfl rfl rfl rfl rfl rfl) fun wz hRz hgz => ?_
   have hdz := HGF.out.grows.grownOwn HGF.out.hR HGF.out.wR hgz;clear HGF hRR hgz;go_wp2_with fail
   refine ret_row_tmp rfl rfl hRz rfl rfl size_key rfl ?_
   exact .inr (.inl ⟨HV.out, no_key HFN.out, rfl, hdz.below⟩)
structure FR (W0 : World) (H : Snap) (R K : Nat) (xc kc : Array Value) (w : World) (Hr : Snap) : Prop where
 kn : KN W0 H R K kc w Hr
 box : Blk w W0.heap.size 75 xc
 nb : K ≠ W0.heap.size
section
variable {W0 w w' : World} {H Hr Hs : Snap} {R K : Nat} {xc kc kc' : Array Value}
end
def namedP (s : ByteArray) : Bool := decide (s.size ≤ 64) && Lib.validD s.data.toList
theorem ref21_named {H : Snap} (hTab : Tabs H) (s : ByteArray) (hs : s.size ≤ 9223372036854775807) (w : World) (hH : Holds w H) :
  Calls Tryz.prog 36 #[.string s] w fun e w' => e = .returned (.bool (namedP s)) ∧ Below w.heap.size w w' := by
 obtain ⟨n, hn⟩ : ∃ n, s.size = n := ⟨_, rfl⟩
 have hns : ((s.size : Nat) : Int) = (n : Int) := by rw [hn]
 by_cases h : n ≤ 64
 ·have VS := Hh (utf8_ValidString hTab w hH s (by omega));have E : Hid (namedP s = Lib.validD s.data.toList) := by rw [Hid, namedP, hn, decide_eq_true h, Bool.true_and]
  obtain ⟨q, hq⟩ : ∃ q, Lib.validD s.data.toList = q := ⟨_, rfl⟩
  rw [hq] at E VS;have hi : (n : Int) ≤ 64 := by omega
  clear hq hn hTab hH hs h;go_enter Tryz.func36, Tryz.ntmps36
  go_wp2_with fail
  refine VS.out.mono ?_
  rintro e w1 ⟨rfl, hb1⟩
  go_wp2_with fail
  go_ret
  exact ⟨by rw [E.out]; rfl, hb1⟩
 ·have E : Hid (namedP s = false) := by rw [Hid, namedP, hn, decide_eq_false h, Bool.false_and]
  have hi : ¬ (n : Int) ≤ 64 := by omega
  clear hn hTab hH hs h;go_enter Tryz.func36, Tryz.ntmps36
  go_wp2_with fail
  go_ret
  exact ⟨by rw [E.out]; rfl, Below.refl _ _⟩
structure Cl where
 issuer : ByteArray
 subject : ByteArray
 since : Int
 till : Int
 key : Ky
abbrev clC (i s : ByteArray) (f u t v g : Int) (Ai : Option Addr) (ni ci : Nat) (Ax : Option Addr) (nx cx : Nat) (Ad : Option Addr) (nd cd : Nat) (Ak : Option Addr) (nk ck : Nat) : Array Value :=
 #[.string i, .string s, .int .i64 f, .int .i64 u, .int .i64 t, .int .i64 v, .int .i64 g, .slice Ai ni ci, .slice Ax nx cx, .slice Ad nd cd, .slice Ak nk ck]
abbrev clQ (c : Cl) (a : KAd) : Array Value := clC c.issuer c.subject c.since c.till c.key.kty c.key.crv c.key.alg a.ia c.key.kid.length a.ic a.xa c.key.x.length a.xc a.da c.key.d.length a.dc a.ka c.key.k.length a.kc
structure ClA (H : Snap) (c : Cl) (a : KAd) : Prop where
 issuer : c.issuer.size ≤ 9223372036854775807
 subject : c.subject.size ≤ 9223372036854775807
 since : -9223372036854775808 ≤ c.since ∧ c.since ≤ 9223372036854775807
 till : -9223372036854775808 ≤ c.till ∧ c.till ≤ 9223372036854775807
 key : KeyA H c.key a
theorem ClA.mono {H K : Snap} {c : Cl} {a : KAd} (h : ClA H c a) (hl : H.le K) : ClA K c a := ⟨h.issuer, h.subject, h.since, h.till, h.key.mono hl⟩
def validC (c : Cl) : Bool := namedP c.issuer && namedP c.subject && decide (c.subject ≠ ⟨#[]⟩) && decide (0 ≤ c.since) && decide (c.since ≤ 1073741824) && decide (0 ≤ c.till) && decide (c.till ≤ 1073741824) && decide (¬ (0 < c.till ∧ c.till < c.since)) && validK c.key && decide (c.key.kty = 1) && decide (0 < c.key.x.length) && decide (c.key.d.length = 0)
theorem validC_iff (c : Cl) : validC c = true ↔ namedP c.issuer = true ∧ namedP c.subject = true ∧ c.subject ≠ ⟨#[]⟩ ∧ 0 ≤ c.since ∧ c.since ≤ 1073741824 ∧ 0 ≤ c.till ∧ c.till ≤ 1073741824 ∧ ¬ (0 < c.till ∧ c.till < c.since) ∧ validK c.key = true ∧ c.key.kty = 1 ∧ 0 < c.key.x.length ∧ c.key.d.length = 0 := by
 simp only [validC, Bool.and_eq_true, decide_eq_true_eq, and_assoc]
theorem validC_no {c : Cl} (h : ¬ (namedP c.issuer = true ∧ namedP c.subject = true ∧ c.subject ≠ ⟨#[]⟩ ∧ 0 ≤ c.since ∧ c.since ≤ 1073741824 ∧ 0 ≤ c.till ∧ c.till ≤ 1073741824 ∧ ¬ (0 < c.till ∧ c.till < c.since) ∧ validK c.key = true ∧ c.key.kty = 1 ∧ 0 < c.key.x.length ∧ c.key.d.length = 0)) : validC c = false := by
 cases hv : validC c with
 | false => rfl
 | true => exact absurd ((validC_iff c).1 hv) h
theorem empty_iff (s : ByteArray) : s.toList.isEmpty = true ↔ s = ⟨#[]⟩ := by
 rw [List.isEmpty_iff, ByteArray.toList_eq]
 cases s with
 | mk d => simp
theorem ref21_Valid {H : Snap} (hTab : Tabs H) {c : Cl} {a : KAd} (hc : ClA H c a) (w : World) (hH : Holds w H) :
  Calls Tryz.prog 30 #[.agg (clQ c a)] w fun e w' => e = .returned (.bool (validC c)) ∧ Below w.heap.size w w' := by
 obtain ⟨nx, hnx⟩ : ∃ n, n = c.key.x.length := ⟨_, rfl⟩
 obtain ⟨nd, hnd⟩ : ∃ n, n = c.key.d.length := ⟨_, rfl⟩
 have HN := Hh (And.intro hnx hnd);have HC := Hh hc;have N1 := Hh (fun w hH => ref21_named hTab c.issuer hc.issuer w hH);have N2 := Hh (fun w hH => ref21_named hTab c.subject hc.subject w hH);have V : Hid (∀ W, Calls Tryz.prog 37 #[.agg (keyC c.key.kty c.key.crv c.key.alg a.ia c.key.kid.length a.ic a.xa c.key.x.length a.xc a.da c.key.d.length a.dc a.ka c.key.k.length a.kc)] W fun e w' => e = .returned (.bool (validK c.key)) ∧ Below W.heap.size W w') := fun W => ref_ValidN c.key.kty c.key.crv c.key.alg a.ia c.key.kid.length a.ic a.xa c.key.x.length a.xc a.da c.key.d.length a.dc a.ka c.key.k.length a.kc W hc.key.len.1 hc.key.len.2
 show Calls Tryz.prog 30 #[.agg (clC c.issuer c.subject c.since c.till c.key.kty c.key.crv c.key.alg a.ia c.key.kid.length a.ic a.xa c.key.x.length a.xc a.da c.key.d.length a.dc a.ka c.key.k.length a.kc)] w _
 rw [← hnx, ← hnd] at V ⊢;obtain ⟨ni, hni⟩ : ∃ n, c.key.kid.length = n := ⟨_, rfl⟩
 obtain ⟨nk, hnk⟩ : ∃ n, c.key.k.length = n := ⟨_, rfl⟩
 rw [hni, hnk] at V ⊢;have hB := Blk.new w 62 (clC c.issuer c.subject c.since c.till c.key.kty c.key.crv c.key.alg a.ia ni a.ic a.xa nx a.xc a.da nd a.dc a.ka nk a.kc);have hb := below_box w (.cells (clC c.issuer c.subject c.since c.till c.key.kty c.key.crv c.key.alg a.ia ni a.ic a.xa nx a.xc a.da nd a.dc a.ka nk a.kc) 62);have HH := Hh hH;have HNO := Hh (fun h => validC_no (c := c) h);have HYE := Hh (validC_iff c);have c0 := hB.cell 0 rfl;clear hnx hnd hni hnk hTab hc hH;go_enter Tryz.func30, Tryz.ntmps30
 go_wp2_with fail
 refine (N1.out _ (HH.out.below hb (Nat.le_refl _))).mono ?_
 rintro e w2 ⟨rfl, hb2⟩
 replace hB := hB.below hb2;replace hb := hb.trans (hb2.mono hb.size);clear hb2 c0 N1
 cases h1 : namedP c.issuer with
 | false =>
  have E : Hid (validC c = false) := HNO.out (fun h => by rw [h1] at h; exact absurd h.1 (by decide));clear hB h1;go_wp2_with fail
  go_ret
  exact ⟨by rw [E.out]; rfl, hb⟩
 | true =>
 have H1 := Hh h1;clear h1;have c1 := hB.cell 1 rfl;go_wp2_with fail
 refine (N2.out _ (HH.out.below hb (Nat.le_refl _))).mono ?_
 rintro e w3 ⟨rfl, hb3⟩
 replace hB := hB.below hb3;replace hb := hb.trans (hb3.mono hb.size);clear hb3 c1 N2
 cases h2 : namedP c.subject with
 | false =>
  have E : Hid (validC c = false) := HNO.out (fun h => by rw [h2] at h; exact absurd h.2.1 (by decide));clear hB h2;go_wp2_with fail
  go_ret
  exact ⟨by rw [E.out]; rfl, hb⟩
 | true =>
 have H2 := Hh h2;clear h2;have c1 := hB.cell 1 rfl;have c2 := hB.cell 2 rfl;have c3 := hB.cell 3 rfl
 by_cases hs : c.subject = ⟨#[]⟩
 ·have E : Hid (validC c = false) := HNO.out (fun h => h.2.2.1 hs);have s2 : c.subject.toList.isEmpty = true := (empty_iff _).2 hs;clear hs;clear hB;go_wp2_with fail
  go_ret
  exact ⟨by rw [E.out]; rfl, hb⟩
 have s2 : c.subject.toList.isEmpty = false := by cases h : c.subject.toList.isEmpty with | false => rfl | true => exact absurd ((empty_iff _).1 h) hs
 have HS := Hh hs;clear hs
 by_cases f0 : c.since < 0
 ·have E : Hid (validC c = false) := HNO.out (fun h => by have := h.2.2.2.1; omega);clear hB;go_wp2_with fail
  go_ret
  exact ⟨by rw [E.out]; rfl, hb⟩
 by_cases f1 : 1073741824 < c.since
 ·have E : Hid (validC c = false) := HNO.out (fun h => by have := h.2.2.2.2.1; omega);clear hB;go_wp2_with fail
  go_ret
  exact ⟨by rw [E.out]; rfl, hb⟩
 by_cases u0 : c.till < 0
 ·have E : Hid (validC c = false) := HNO.out (fun h => by have := h.2.2.2.2.2.1; omega);clear hB;go_wp2_with fail
  go_ret
  exact ⟨by rw [E.out]; rfl, hb⟩
 by_cases u1 : 1073741824 < c.till
 ·have E : Hid (validC c = false) := HNO.out (fun h => by have := h.2.2.2.2.2.2.1; omega);clear hB;go_wp2_with fail
  go_ret
  exact ⟨by rw [E.out]; rfl, hb⟩
 have HF := Hh (And.intro f0 (And.intro f1 (And.intro u0 u1)))
 by_cases hfu : 0 < c.till ∧ c.till < c.since
 ·have E : Hid (validC c = false) := HNO.out (fun h => h.2.2.2.2.2.2.2.1 hfu);obtain ⟨g0, g1⟩ := hfu;clear hB;go_wp2_with fail
  go_ret
  exact ⟨by rw [E.out]; rfl, hb⟩
 have HFU := Hh hfu;have c4 := hB.cell 4 rfl;have c5 := hB.cell 5 rfl;have c6 := hB.cell 6 rfl;have c7 := hB.cell 7 rfl;have c8 := hB.cell 8 rfl;have c9 := hB.cell 9 rfl;have c10 := hB.cell 10 rfl;have fin : ∀ (w' : World), True := fun _ => trivial
 have go2 : Hid (validC c = (validK c.key && decide (c.key.kty = 1) && decide (0 < nx) && decide (nd = 0))) := by
  rw [Hid, HN.out.1, HN.out.2, Bool.eq_iff_iff, HYE.out]
  simp only [Bool.and_eq_true, decide_eq_true_eq, and_assoc]
  have e := HF.out
  exact ⟨fun h => ⟨h.2.2.2.2.2.2.2.2.1, h.2.2.2.2.2.2.2.2.2.1, h.2.2.2.2.2.2.2.2.2.2.1, h.2.2.2.2.2.2.2.2.2.2.2⟩, fun h => ⟨H1.out, H2.out, HS.out, by omega, by omega, by omega, by omega, HFU.out, h.1, h.2.1, h.2.2.1, h.2.2.2⟩⟩
 by_cases g0 : 0 < c.till
 ·have g1 : ¬ c.till < c.since := fun h => hfu ⟨g0, h⟩
  clear hfu fin;go_wp2_with fail
  refine (V.out _).mono ?_
  rintro e w4 ⟨rfl, hb4⟩
  replace hB := hB.below hb4;replace hb := hb.trans (hb4.mono hb.size);clear hb4 V c1 c2 c3 c4 c5 c6 c7 c8 c9 c10
  cases hv : validK c.key with
  | false =>
   rw [hv] at go2;clear hB hv;go_wp2_with fail
   go_ret
   exact ⟨by rw [go2.out]; simp, hb⟩
  | true =>
  rw [hv] at go2;clear hv;have c4 := hB.cell 4 rfl;have c8 := hB.cell 8 rfl;have c9 := hB.cell 9 rfl
  by_cases hk : c.key.kty = 1
  ·have k1 : (c.key.kty = 1) = True := eq_true hk;have k2 : (c.key.kty == 1) = true := by simpa using hk
   by_cases hx : 0 < nx
   ·have x1 : (0 : Int) < (nx : Int) := by omega
    by_cases hd : nd = 0
    ·subst hd;clear hB hk;go_wp2_with fail
     go_ret
     exact ⟨by rw [go2.out]; simp [k1, hx], hb⟩
    ·have d1 : ((nd : Int) = 0) = False := eq_false (by omega);have d2 : (nd = 0) = False := eq_false hd;have d3 : ((nd : Int) == 0) = false := by simpa using hd
     clear hB hk;go_wp2_with fail
     go_ret
     exact ⟨by rw [go2.out]; simp [hd], hb⟩
   ·have x1 : ¬ (0 : Int) < (nx : Int) := by omega
    clear hB hk;go_wp2_with fail
    go_ret
    exact ⟨by rw [go2.out]; simp [hx], hb⟩
  ·have k1 : (c.key.kty = 1) = False := eq_false hk;have k2 : (c.key.kty == 1) = false := by simpa using hk
   clear hB;go_wp2_with fail
   go_ret
   exact ⟨by rw [go2.out]; simp [hk], hb⟩
 ·clear hfu fin;go_wp2_with fail
  refine (V.out _).mono ?_
  rintro e w4 ⟨rfl, hb4⟩
  replace hB := hB.below hb4;replace hb := hb.trans (hb4.mono hb.size);clear hb4 V c1 c2 c3 c4 c5 c6 c7 c8 c9 c10
  cases hv : validK c.key with
  | false =>
   rw [hv] at go2;clear hB hv;go_wp2_with fail
   go_ret
   exact ⟨by rw [go2.out]; simp, hb⟩
  | true =>
  rw [hv] at go2;clear hv;have c4 := hB.cell 4 rfl;have c8 := hB.cell 8 rfl;have c9 := hB.cell 9 rfl
  by_cases hk : c.key.kty = 1
  ·have k1 : (c.key.kty = 1) = True := eq_true hk;have k2 : (c.key.kty == 1) = true := by simpa using hk
   by_cases hx : 0 < nx
   ·have x1 : (0 : Int) < (nx : Int) := by omega
    by_cases hd : nd = 0
    ·subst hd;clear hB hk;go_wp2_with fail
     go_ret
     exact ⟨by rw [go2.out]; simp [k1, hx], hb⟩
    ·have d1 : ((nd : Int) = 0) = False := eq_false (by omega);have d2 : (nd = 0) = False := eq_false hd;have d3 : ((nd : Int) == 0) = false := by simpa using hd
     clear hB hk;go_wp2_with fail
     go_ret
     exact ⟨by rw [go2.out]; simp [hd], hb⟩
   ·have x1 : ¬ (0 : Int) < (nx : Int) := by omega
    clear hB hk;go_wp2_with fail
    go_ret
    exact ⟨by rw [go2.out]; simp [hx], hb⟩
  ·have k1 : (c.key.kty = 1) = False := eq_false hk;have k2 : (c.key.kty == 1) = false := by simpa using hk
   clear hB;go_wp2_with fail
   go_ret
   exact ⟨by rw [go2.out]; simp [hk], hb⟩
def txtI (s : ByteArray) : Itm := .mk 3 0 s.data.toList []
def cnfI (q : Ky) : Itm := .mk 5 0 [] [intP 1, itemK q]
def issL (s : ByteArray) : List Itm := if s = ⟨#[]⟩ then [] else [intP 1, txtI s]
def tickL (k n : Int) : List Itm := if 0 < n then [intP k, intP n] else []
def pairsC (c : Cl) : List Itm := issL c.issuer ++ [intP 2, txtI c.subject] ++ tickL 4 c.till ++ tickL 5 c.since ++ [intP 8, cnfI c.key]
def itmCl (c : Cl) : Itm := .mk 5 0 [] (pairsC c)
theorem lt_labelsC : Lib.compareBytes (encB (intP 1)) (encB (intP 2)) < 0 ∧ Lib.compareBytes (encB (intP 2)) (encB (intP 4)) < 0 ∧ Lib.compareBytes (encB (intP 2)) (encB (intP 5)) < 0 ∧ Lib.compareBytes (encB (intP 2)) (encB (intP 8)) < 0 ∧
  Lib.compareBytes (encB (intP 4)) (encB (intP 5)) < 0 ∧ Lib.compareBytes (encB (intP 4)) (encB (intP 8)) < 0 ∧ Lib.compareBytes (encB (intP 5)) (encB (intP 8)) < 0 := by
 rw [encB_intP, encB_intP, encB_intP, encB_intP, encB_intP];decide +kernel
theorem asc_pairsC (c : Cl) : ascP (pairsC c) = true := by
 obtain ⟨h12, h24, h25, h28, h45, h48, h58⟩ := lt_labelsC
 unfold pairsC issL tickL
 repeat' split
 all_goals simp [ascP, h12, h24, h25, h28, h45, h48, h58]
theorem pairsC_len (c : Cl) : (pairsC c).length % 2 = 0 ∧ 4 ≤ (pairsC c).length ∧ (pairsC c).length ≤ 10 := by
 unfold pairsC issL tickL
 repeat' split
 all_goals simp
theorem validD_named {s : ByteArray} (h : namedP s = true) : s.data.toList.length ≤ 64 ∧ Lib.validD s.data.toList = true := by
 unfold namedP at h
 rw [Bool.and_eq_true, decide_eq_true_eq] at h
 exact ⟨by rw [Array.length_toList]; exact h.1, h.2⟩
theorem named_size {s : ByteArray} (h : namedP s = true) : s.size ≤ 64 := by
 unfold namedP at h
 rw [Bool.and_eq_true, decide_eq_true_eq] at h
 exact h.1
theorem good_txtI {s : ByteArray} (h : namedP s = true) (lv : Nat) : Good (txtI s) lv := good_str 3 (.inr rfl) _ lv (fun _ => (validD_named h).2)
theorem good_map {l : List Itm} {lv : Nat} (hlv : lv ≤ 7) (he : l.length % 2 = 0) (hg : GoodL l (lv + 1)) (ha : ascP l = true) : Good (.mk 5 0 [] l) lv := by
 refine Good.of ?_ hg (fun _ => ha)
 rw [nodeOk, if_neg (by rw [isPlain_iff]; simp [Itm.kind]), frameOk]
 simp [Itm.kind, Itm.bytes, Itm.items, Itm.n, he]
 omega
theorem good_itemK2 (q : Ky) : Good (itemK q) 2 := good_map (by omega) (pairsK_even q) (goodL_pairsK q 3) (asc_pairsK q)
theorem good_cnfI (q : Ky) : Good (cnfI q) 1 := good_map (by omega) (by simp) (by simp [GoodL, good_intP, good_itemK2]) rfl
theorem good_itmCl {c : Cl} (h : validC c = true) : Good (itmCl c) 0 := by
 have hv := (validC_iff c).1 h
 refine good_map (by omega) (pairsC_len c).1 (GoodL.of fun x hx => ?_) (asc_pairsC c)
 unfold pairsC issL tickL at hx
 simp only [List.mem_append] at hx
 rcases hx with (((hx | hx) | hx) | hx) | hx
 ·split at hx
  ·simp at hx
  ·simp at hx
   rcases hx with rfl | rfl
   ·exact good_intP _ _
   ·exact good_txtI hv.1 _
 ·simp at hx
  rcases hx with rfl | rfl
  ·exact good_intP _ _
  ·exact good_txtI hv.2.1 _
 ·split at hx
  ·simp at hx
   rcases hx with rfl | rfl <;> exact good_intP _ _
  ·simp at hx
 ·split at hx
  ·simp at hx
   rcases hx with rfl | rfl <;> exact good_intP _ _
  ·simp at hx
 ·simp at hx
  rcases hx with rfl | rfl
  ·exact good_intP _ _
  ·exact good_cnfI _
theorem leaf_txtI {s : ByteArray} (h : namedP s = true) : leafK (txtI s) := by
 refine ⟨by simp [txtI, cnt, cntL], ?_⟩
 have h1 := encB_len 3 0 s.data.toList [] (by decide) (by decide);have h2 := (validD_named h).1
 simp only [encL, List.length_nil] at h1
 simp only [txtI]
 omega
theorem cnf_len {q : Ky} (h : validK q = true) : cnt (cnfI q) ≤ 15 ∧ (encB (cnfI q)).length ≤ 1000 := by
 have hs := sum_leaf (pairsK q) (leaf_pairsK h);have hl := pairsK_len q;have h1 := leaf_intP 1;have hk := encB_len 5 0 [] (pairsK q) (by decide) (by decide);have hc := encB_len 5 0 [] [intP 1, itemK q] (by decide) (by decide);have e : encL [intP 1, itemK q] = encB (intP 1) ++ encB (itemK q) := by simp [encL]
 have e2 : encB (itemK q) = encB (.mk 5 0 [] (pairsK q)) := rfl;rw [e, List.length_append, e2] at hc;have h2 := h1.2;have h3 := h1.1
 refine ⟨?_, ?_⟩
 ·show cnt (.mk 5 0 [] [intP 1, .mk 5 0 [] (pairsK q)]) ≤ 15
  simp only [cnt, cntL]
  rw [hs.1]
  omega
 ·show (encB (.mk 5 0 [] [intP 1, itemK q])).length ≤ 1000
  simp only [List.length_nil] at hk hc
  omega
def initC (c : Cl) : List Itm := issL c.issuer ++ [intP 2, txtI c.subject] ++ tickL 4 c.till ++ tickL 5 c.since
theorem leaf_initC {c : Cl} (h : validC c = true) : ∀ x ∈ initC c, leafK x := by
 have hv := (validC_iff c).1 h
 intro x hx
 unfold initC issL tickL at hx
 simp only [List.mem_append] at hx
 rcases hx with ((hx | hx) | hx) | hx
 ·split at hx
  ·simp at hx
  ·simp at hx
   rcases hx with rfl | rfl
   ·exact leaf_intP _
   ·exact leaf_txtI hv.1
 ·simp at hx
  rcases hx with rfl | rfl
  ·exact leaf_intP _
  ·exact leaf_txtI hv.2.1
 ·split at hx
  ·simp at hx
   rcases hx with rfl | rfl <;> exact leaf_intP _
  ·simp at hx
 ·split at hx
  ·simp at hx
   rcases hx with rfl | rfl <;> exact leaf_intP _
  ·simp at hx
theorem cntL_app2 : ∀ l m : List Itm, cntL (l ++ m) = cntL l + cntL m
 | [], m => by simp [cntL]
 | x :: l, m => by rw [List.cons_append, cntL, cntL, cntL_app2 l m]; omega
theorem initC_len (c : Cl) : (initC c).length ≤ 8 := by
 unfold initC issL tickL
 repeat' split
 all_goals simp
theorem len_itmCl {c : Cl} (h : validC c = true) : cnt (itmCl c) ≤ 26 ∧ (encB (itmCl c)).length ≤ 1700 := by
 have hv := (validC_iff c).1 h;have hs := sum_leaf (initC c) (leaf_initC h);have hl := initC_len c;have hk := cnf_len hv.2.2.2.2.2.2.2.2.1;have h1 := leaf_intP 8;have hc := encB_len 5 0 [] (pairsC c) (by decide) (by decide)
 have e : encL (pairsC c) = encL (initC c) ++ (encB (intP 8) ++ encB (cnfI c.key)) := by
  show encL (initC c ++ [intP 8, cnfI c.key]) = _
  rw [encL_append]
  simp [encL]
 rw [e, List.length_append, List.length_append] at hc;have h2 := h1.2;have h3 := h1.1
 refine ⟨?_, ?_⟩
 ·show cnt (.mk 5 0 [] (initC c ++ [intP 8, cnfI c.key])) ≤ 26
  rw [cnt, cntL_app2, hs.1]
  simp only [cntL]
  omega
 ·show (encB (.mk 5 0 [] (pairsC c))).length ≤ 1700
  simp only [List.length_nil] at hc
  omega
theorem validP_itmCl {c : Cl} (h : validC c = true) : validP (itmCl c) = true :=
 (validP_iff _).mpr ⟨good_itmCl h, by have := (len_itmCl h).1; omega, by have := (len_itmCl h).2; omega⟩
theorem buildC {c : Cl} (h : validC c = true) : (pairsC c).length % 2 = 0 ∧ ascP (pairsC c) = true ∧ (∀ x ∈ pairsC c, validP x = true) ∧ validP (.mk 5 0 [] (pairsC c)) = true :=
 ⟨(pairsC_len c).1, asc_pairsC c, fun x hx => validP_elem (validP_itmCl h) (show x ∈ (itmCl c).items from hx), validP_itmCl h⟩
def keyOf (x : Itm) : Ky := if validP x && validK (kfoldR nilKy x.items) && sameB (itemK (kfoldR nilKy x.items)) x then kfoldR nilKy x.items else nilKy
theorem keyOf_is {x : Itm} {q : Ky} (hv : validP x = true) (h : IsKeyI x q) : keyOf x = q := by
 have e := kfoldR_key h
 unfold keyOf
 rw [e, hv, h.1, (sameB_iff _ _).2 h.2];rfl
def strOf (b : List UInt8) : ByteArray := ⟨b.toArray⟩
theorem strOf_toList (s : ByteArray) : strOf s.data.toList = s := by cases s; rfl
def big40 (n : Nat) : Int := ((min n 1099511627776 : Nat) : Int)
def nilC : Cl := ⟨⟨#[]⟩, ⟨#[]⟩, 0, 0, nilKy⟩
def cstep (c : Cl) (k v : Itm) : Cl :=
 if k.n = 1 then { c with issuer := strOf v.bytes } else if k.n = 2 then { c with subject := strOf v.bytes } else if k.n = 4 then { c with till := big40 v.n }
 else if k.n = 5 then { c with since := big40 v.n } else if k.n = 8 then (match v.items with | [_, b] => if v.kind = 5 then { c with key := keyOf b } else c | _ => c) else c
def cfold : Cl → List Itm → Option Cl
 | c, k :: v :: l => if k.kind = 0 then cfold (cstep c k v) l else none
 | c, _ => some c
def claimsP (x : Itm) : Option Cl := if x.kind = 5 then (match cfold nilC x.items with | none => none | some c => if validC c && sameB (itmCl c) x then some c else none) else none
theorem cfold_nil (c : Cl) : cfold c [] = some c := by simp [cfold]
theorem claimsP_some {x : Itm} {c : Cl} (h : claimsP x = some c) : validC c = true ∧ itmCl c = x := by
 unfold claimsP at h
 split at h
 ·split at h
  ·cases h
  ·split at h
   ·rename_i hc
    rw [Bool.and_eq_true] at hc;injection h with h
    subst h
    exact ⟨hc.1, (sameB_iff _ _).1 hc.2⟩
   ·cases h
 ·cases h
theorem cfold_txt (c : Cl) (k : Int) (s : ByteArray) (l : List Itm) (hk : 0 ≤ k) : cfold c (intP k :: txtI s :: l) = cfold (cstep c (.mk 0 k.toNat [] []) (txtI s)) l := by
 rw [cfold];have e : intP k = .mk 0 k.toNat [] [] := by rw [intP, if_neg (by omega)]
 rw [e];rfl
theorem big40_of {n : Int} (h0 : 0 ≤ n) (h : n ≤ 1073741824) : big40 n.toNat = n := by
 unfold big40
 omega
theorem cfold_num (c : Cl) (k n : Int) (l : List Itm) (hk : 0 ≤ k) : cfold c (intP k :: intP n :: l) = cfold (cstep c (.mk 0 k.toNat [] []) (intP n)) l := by
 rw [cfold];have e : intP k = .mk 0 k.toNat [] [] := by rw [intP, if_neg (by omega)]
 rw [e];rfl
theorem cfold_pairs {c : Cl} (h : validC c = true) : cfold nilC (pairsC c) = some c := by
 have hv := (validC_iff c).1 h;have hq : validP (itemK c.key) = true ∧ IsKeyI (itemK c.key) c.key := ⟨validP_itemK hv.2.2.2.2.2.2.2.2.1, hv.2.2.2.2.2.2.2.2.1, rfl⟩
 obtain ⟨i, s, f, t, q⟩ := c
 simp only at hv hq
 have last : ∀ (c' : Cl), c' = ⟨i, s, f, t, nilKy⟩ → cfold c' [intP 8, cnfI q] = some ⟨i, s, f, t, q⟩ := by
  rintro _ rfl
  have e : intP 8 = .mk 0 8 [] [] := rfl;rw [cfold, e, if_pos (show (Itm.mk 0 8 [] []).kind = 0 from rfl), cfold_nil]
  unfold cstep
  simp only [Itm.n, cnfI, Itm.items, Itm.kind]
  rw [keyOf_is hq.1 hq.2];rfl
 have hf : ∀ (c' : Cl), c' = ⟨i, s, 0, t, nilKy⟩ → cfold c' (tickL 5 f ++ [intP 8, cnfI q]) = some ⟨i, s, f, t, q⟩ := by
  rintro _ rfl
  unfold tickL
  split
  ·rw [List.cons_append, List.cons_append, List.nil_append, cfold_num _ _ _ _ (by omega)]
   refine last _ ?_
   show (⟨i, s, big40 (intP f).n, t, nilKy⟩ : Cl) = _
   rw [intP, if_neg (by omega)];show (⟨i, s, big40 f.toNat, t, nilKy⟩ : Cl) = _
   rw [big40_of (by omega) (by omega)]
  ·rw [List.nil_append]
   refine last _ ?_
   rw [show f = 0 by omega]
 have ht : ∀ (c' : Cl), c' = ⟨i, s, 0, 0, nilKy⟩ → cfold c' (tickL 4 t ++ (tickL 5 f ++ [intP 8, cnfI q])) = some ⟨i, s, f, t, q⟩ := by
  rintro _ rfl
  rw [tickL]
  split
  ·rw [List.cons_append, List.cons_append, List.nil_append, cfold_num _ _ _ _ (by omega)]
   refine hf _ ?_
   show (⟨i, s, 0, big40 (intP t).n, nilKy⟩ : Cl) = _
   rw [intP, if_neg (by omega)];show (⟨i, s, 0, big40 t.toNat, nilKy⟩ : Cl) = _
   rw [big40_of (by omega) (by omega)]
  ·rw [List.nil_append]
   refine hf _ ?_
   rw [show t = 0 by omega]
 have hs : ∀ (c' : Cl), c' = ⟨i, ⟨#[]⟩, 0, 0, nilKy⟩ → cfold c' ([intP 2, txtI s] ++ (tickL 4 t ++ (tickL 5 f ++ [intP 8, cnfI q]))) = some ⟨i, s, f, t, q⟩ := by
  rintro _ rfl
  rw [List.cons_append, List.cons_append, List.nil_append, cfold_txt _ _ _ _ (by omega)]
  refine ht _ ?_
  show (⟨i, strOf s.data.toList, 0, 0, nilKy⟩ : Cl) = _
  rw [strOf_toList]
 unfold pairsC
 simp only [List.append_assoc]
 rw [issL]
 split
 ·rename_i hi
  rw [List.nil_append]
  refine hs _ ?_
  show (⟨⟨#[]⟩, ⟨#[]⟩, 0, 0, nilKy⟩ : Cl) = _
  rw [hi]
 ·rw [List.cons_append, List.cons_append, List.nil_append, cfold_txt _ _ _ _ (by omega)]
  refine hs _ ?_
  show (⟨strOf i.data.toList, ⟨#[]⟩, 0, 0, nilKy⟩ : Cl) = _
  rw [strOf_toList]
theorem claimsP_iff (x : Itm) (c : Cl) : claimsP x = some c ↔ validC c = true ∧ itmCl c = x := by
 refine ⟨claimsP_some, fun ⟨h1, h2⟩ => ?_⟩
 subst h2
 unfold claimsP
 have e : (itmCl c).items = pairsC c := rfl;rw [if_pos (show (itmCl c).kind = 5 from rfl), e, cfold_pairs h1]
 simp only [h1, (sameB_iff (itmCl c) (itmCl c)).2 rfl, Bool.and_self, if_true]
end Go.Proofs.YtgaoknihklmakaaGreatDoor
