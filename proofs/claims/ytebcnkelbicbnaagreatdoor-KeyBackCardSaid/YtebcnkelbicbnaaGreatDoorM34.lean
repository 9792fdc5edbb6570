/- Walks: the key of an item, by the program. Walks: the key of an item, by the reference. -/
import Derived.Test.YtebcnkelbicbnaaGreatDoorM33
import Derived.Test.YtebcnkelbicbnaaGreatDoorM30
import Derived.Test.YtebcnkelbicbnaaGreatDoorM19
import Derived.Test.YtebcnkelbicbnaaGreatDoorM02
import Derived.Test.YtebcnkelbicbnaaGreatDoorM08
import Derived.Test.YtebcnkelbicbnaaGreatDoorM11
set_option linter.unusedVariables false
set_option linter.unusedSimpArgs false
namespace Go.Proofs.YtebcnkelbicbnaaGreatDoor
open Go.RowKit

/-- What both sides answer: the key of the item, or an error. -/
def FromOut (w : World) (H : Snap) (x : Itm) (e : Ending) (w' : World) : Prop :=
  (validP x = false ∧ e = .returned (.tuple #[.agg zeroK, .int .i64 1]) ∧ Below w.heap.size w w') ∨
  (validP x = true ∧ (¬ ∃ q, IsKeyI x q) ∧ e = .returned (.tuple #[.agg zeroK, .int .i64 12]) ∧ Below w.heap.size w w') ∨
  (∃ q a H', validP x = true ∧ IsKeyI x q ∧ e = .returned (.tuple #[.agg (keyQ q a), .int .i64 0]) ∧ Grows w H w' H' ∧ KeyA H' q a)
theorem kfold_cons (q : Ky) (l : List Itm) (j : Nat) (h : j + 1 < l.length) : kfoldP q (l.drop j) = match kstepP q (l[j]'(by omega)) l[j + 1] with | none => none | some q' => kfoldP q' (l.drop (j + 2)) := by
  rw [List.drop_eq_getElem_cons (by omega : j < l.length), List.drop_eq_getElem_cons h, kfoldP]
  cases kstepP q (l[j]'(by omega)) l[j + 1] <;> rfl
theorem no_key {x : Itm} (h : kfoldP nilKy x.items = none) : ¬ ∃ q, IsKeyI x q := fun ⟨q, hq⟩ => by rw [kfoldP_key hq] at h; cases h
theorem not_map {x : Itm} (h : ¬ x.kind = 5) : ¬ ∃ q, IsKeyI x q := fun ⟨q, hq⟩ => h (by rw [← hq.2]; rfl)
def ptr (K f : Nat) : Value := .pointer (some ⟨K, f, none⟩)
theorem lookE1_none {K : Nat} {k : Int} (h1 : ¬ k = 1) (h3 : ¬ k = 3) (h2 : ¬ k = -1) : lookE (ents1 K) k = none := by
  simp [lookE, ents1, h1, h2, h3]
theorem lookE2_none {K : Nat} {k : Int} (h1 : ¬ k = 2) (h2 : ¬ k = -1) (h3 : ¬ k = -2) (h4 : ¬ k = -4) : lookE (ents2 K) k = none := by
  simp [lookE, ents2, h1, h2, h3, h4]
theorem lookE2_ptr (K : Nat) (k : Int) : (lookE (ents2 K) k).getD (.pointer none) = .pointer none ∨ ∃ p, (lookE (ents2 K) k).getD (.pointer none) = .pointer (some p) := by
  by_cases h1 : k = 2
  · subst h1; exact .inr ⟨_, rfl⟩
  by_cases h2 : k = -1
  · subst h2; exact .inr ⟨_, rfl⟩
  by_cases h3 : k = -2
  · subst h3; exact .inr ⟨_, rfl⟩
  by_cases h4 : k = -4
  · subst h4; exact .inr ⟨_, rfl⟩
  rw [lookE2_none h1 h2 h3 h4]
  exact .inl rfl
theorem nmP_two {n : Nat} {b : List UInt8} {l : List Itm} : nmP (.mk 2 n b l) = none := by
  rw [nmP]
  split
  · rfl
  · rfl
theorem nmP_range {z : Itm} {n : Int} (h : nmP z = some n) : -9223372036854775808 ≤ n ∧ n ≤ 9223372036854775807 := by
  obtain ⟨k, m, b, l⟩ := z
  rw [nmP] at h
  split at h
  · cases h
  · split at h
    · injection h with h; omega
    · split at h
      · injection h with h; omega
      · cases h
set_option maxRecDepth 100000 in
set_option maxHeartbeats 51200000 in
theorem key_FromItem {H : Snap} (hTab : Tabs H) {x : Itm} {ba : Option Addr} {bc : Nat} {ia : Option Addr} {ic : Nat} (hx : IsItem H ba bc ia ic x) (w : World) (hH : Holds w H) :
    Calls Tryz.prog 17 #[itemV x ba bc ia ic] w (FromOut w H x) := by
  have hX := (Blk.new w 26 #[.int .i64 x.kind, .int .u64 x.n, .slice ba x.bytes.length bc, .slice ia x.items.length ic]).alloc (.cells zeroK 33)
  have hR := Blk.new (w.alloc (itemO x ba bc ia ic)) 33 zeroK
  rw [size_alloc] at hR
  have hRn : H (w.heap.size + 1) = none := hH.none_of_ge (by omega)
  have hG := ((Grows.refl hH).alloc (itemO x ba bc ia ic)).alloc (.cells zeroK 33)
  have HT := Lib.hid hTab
  have HI := Lib.hid hx
  have hmm := @run_makeMap Tryz.prog
  have a0 := hX.cell 0 rfl
  have a1 := hX.cell 1 rfl
  have a2 := hX.cell 2 rfl
  have a3 := hX.cell 3 rfl
  clear hTab hx hH
  go_enter Tryz.func17, Tryz.ntmps17
  go_wp2_with fail
  refine (cbor_Valid HT.out HI.out.arg _ hG.holds).mono ?_
  rintro e w1 ⟨rfl, hb1⟩
  replace hX := hX.below hb1
  replace hR := hR.below hb1
  replace hG := hG.below_ hb1
  clear hb1 a0 a1 a2 a3
  cases hv : validP x with
  | false =>
    have HV := Lib.hid hv
    clear hv hmm hX
    go_wp2_with (with_reducible refine stop_store ?_)
    unfold Stopped
    refine wpList_store_item rfl _ _ _ rfl rfl _ _ rfl rfl _ _ hR size_key rfl (one7 _ _ _ _ _ _ _ rfl rfl rfl rfl rfl rfl rfl) fun wz hRz hgz => ?_
    have hdz := hG.grownOwn hRn (by omega) hgz
    go_wp2_with fail
    refine ret_row_tmp rfl rfl hRz rfl rfl size_key rfl ?_
    exact .inl ⟨HV.out, rfl, hdz.below⟩
  | true =>
  have HV := Lib.hid hv
  clear hv
  obtain ⟨K, hK⟩ : ∃ K, w1.heap.size = K := ⟨_, rfl⟩
  have hKN : KN w H (w.heap.size + 1) w1.heap.size zeroK (w1.alloc (.cells zeroK 33)) H := ⟨hG.alloc _, hR.alloc _, Blk.new _ _ _, hRn, hG.holds.none_of_ge (Nat.le_refl _), by have := hR.lt; omega, by omega, hG.size⟩
  have hBX := hX.alloc (.cells zeroK 33)
  have hM1 : MapIs ((w1.alloc (.cells zeroK 33)).alloc (.map #[] 0)) (w1.alloc (.cells zeroK 33)).heap.size [] := MapIs.new _
  replace hKN := hKN.alloc (.map #[] 0)
  replace hBX := hBX.alloc (.map #[] 0)
  rw [size_alloc] at hM1
  rw [hK] at hKN hM1
  have hxK : K ≠ w.heap.size := by have := hX.lt; omega
  have HKS := Lib.hid (show w.heap.size + 1 < K by have := hR.lt; omega)
  have HHN := Lib.hid (fun b (hb : K ≤ b) => hG.holds.none_of_ge (show w1.heap.size ≤ b by omega))
  clear hX hR hG
  go_wp2_with (with_reducible refine stop_insert ?_)
  unfold Stopped
  try rw [hK]
  have hRK : w.heap.size + 1 < K := by have := hKN.res.lt; have := hKN.neRK; have hq := hBX.lt; have hk9 := HKS.out; omega
  have hMn1 : H (K + 1) = none := HHN.out _ (by have := HKS.out; omega)
  refine wpList_mapIns rfl _ _ _ rfl Tryz.underlying69 Tryz.underlying3 hM1 (1) (ptr K 0) rfl rfl rfl rfl fun wm hMm hgm => ?_
  replace hM1 := hMm
  replace hKN := hKN.far hgm hMn1 (by omega) (by omega) (by omega)
  replace hBX := hBX.grown hgm (fun e => by injection e with e; omega)
  clear hMm hgm
  go_wp2_with (with_reducible refine stop_insert ?_)
  unfold Stopped
  refine wpList_mapIns rfl _ _ _ rfl Tryz.underlying69 Tryz.underlying3 hM1 (3) (ptr K 2) rfl rfl rfl rfl fun wm hMm hgm => ?_
  replace hM1 := hMm
  replace hKN := hKN.far hgm hMn1 (by omega) (by omega) (by omega)
  replace hBX := hBX.grown hgm (fun e => by injection e with e; omega)
  clear hMm hgm
  go_wp2_with (with_reducible refine stop_insert ?_)
  unfold Stopped
  refine wpList_mapIns rfl _ _ _ rfl Tryz.underlying69 Tryz.underlying3 hM1 (-1) (ptr K 1) rfl rfl rfl rfl fun wm hMm hgm => ?_
  replace hM1 := hMm
  replace hKN := hKN.far hgm hMn1 (by omega) (by omega) (by omega)
  replace hBX := hBX.grown hgm (fun e => by injection e with e; omega)
  clear hMm hgm
  have hM2 : MapIs (wm.alloc (.map #[] 0)) wm.heap.size [] := MapIs.new _
  have hMn2 : H wm.heap.size = none := hKN.grows.holds.none_of_ge (Nat.le_refl _)
  have h12 := hM1.lt
  replace hKN := hKN.alloc (.map #[] 0)
  replace hBX := hBX.alloc (.map #[] 0)
  replace hM1 := hM1.alloc (.map #[] 0)
  obtain ⟨M2, hM2e⟩ : ∃ M2, wm.heap.size = M2 := ⟨_, rfl⟩
  rw [hM2e] at hM2 hMn2 h12
  go_wp2_with (with_reducible refine stop_insert ?_)
  unfold Stopped
  try rw [hM2e]
  refine wpList_mapIns rfl _ _ _ rfl Tryz.underlying71 Tryz.underlying3 hM2 (2) (ptr K 3) rfl rfl rfl rfl fun wm hMm hgm => ?_
  replace hM2 := hMm
  replace hKN := hKN.far hgm hMn2 (by omega) (by omega) (by omega)
  replace hBX := hBX.grown hgm (fun e => by injection e with e; omega)
  replace hM1 := hM1.grown hgm (fun e => by injection e with e; omega)
  clear hMm hgm
  go_wp2_with (with_reducible refine stop_insert ?_)
  unfold Stopped
  refine wpList_mapIns rfl _ _ _ rfl Tryz.underlying71 Tryz.underlying3 hM2 (-1) (ptr K 6) rfl rfl rfl rfl fun wm hMm hgm => ?_
  replace hM2 := hMm
  replace hKN := hKN.far hgm hMn2 (by omega) (by omega) (by omega)
  replace hBX := hBX.grown hgm (fun e => by injection e with e; omega)
  replace hM1 := hM1.grown hgm (fun e => by injection e with e; omega)
  clear hMm hgm
  go_wp2_with (with_reducible refine stop_insert ?_)
  unfold Stopped
  refine wpList_mapIns rfl _ _ _ rfl Tryz.underlying71 Tryz.underlying3 hM2 (-2) (ptr K 4) rfl rfl rfl rfl fun wm hMm hgm => ?_
  replace hM2 := hMm
  replace hKN := hKN.far hgm hMn2 (by omega) (by omega) (by omega)
  replace hBX := hBX.grown hgm (fun e => by injection e with e; omega)
  replace hM1 := hM1.grown hgm (fun e => by injection e with e; omega)
  clear hMm hgm
  go_wp2_with (with_reducible refine stop_insert ?_)
  unfold Stopped
  refine wpList_mapIns rfl _ _ _ rfl Tryz.underlying71 Tryz.underlying3 hM2 (-4) (ptr K 5) rfl rfl rfl rfl fun wm hMm hgm => ?_
  replace hM2 := hMm
  replace hKN := hKN.far hgm hMn2 (by omega) (by omega) (by omega)
  replace hBX := hBX.grown hgm (fun e => by injection e with e; omega)
  replace hM1 := hM1.grown hgm (fun e => by injection e with e; omega)
  clear hMm hgm
  have hFM : FM w H (w.heap.size + 1) K (K + 1) M2 #[.int .i64 x.kind, .int .u64 x.n, .slice ba x.bytes.length bc, .slice ia x.items.length ic] (keyQ nilKy ⟨none, 0, none, 0, none, 0, none, 0⟩) wm H := ⟨hKN, hBX, hM1, hM2, by omega, by omega, by omega⟩
  clear hKN hBX hM1 hM2 hmm
  have a0 := hFM.box.cell 0 rfl
  by_cases h5 : x.kind = 5
  case neg =>
    have b5 : (x.kind != 5) = true := by simp [h5]
    have p5 : (x.kind = 5) = False := eq_false h5
    have H5 := Lib.hid h5
    clear h5
    have hRR := hFM.kn.res
    have HGF := Lib.hid hFM.kn
    clear hFM
    go_wp2_with (with_reducible refine stop_store ?_)
    unfold Stopped
    refine wpList_store_item rfl _ _ _ rfl rfl _ _ rfl rfl _ _ hRR size_key rfl (one7 _ _ _ _ _ _ _ rfl rfl rfl rfl rfl rfl rfl) fun wz hRz hgz => ?_
    have hdz := HGF.out.grows.grownOwn HGF.out.hR HGF.out.wR hgz
    clear HGF hRR hgz
    go_wp2_with fail
    refine ret_row_tmp rfl rfl hRz rfl rfl size_key rfl ?_
    exact .inr (.inl ⟨HV.out, not_map H5.out, rfl, hdz.below⟩)
  have b5 : (x.kind != 5) = false := by simp [h5]
  have p5 : (x.kind = 5) = True := eq_true h5
  have HEV := Lib.hid (validP_even HV.out h5)
  have HKD := Lib.hid h5
  clear h5
  go_wp2_with fail
  clear b5 p5 a0
  go_loopw [7] (fun v7 wr => ∃ (j : Nat) (q : Ky) (a : KAd) (Hr : Snap), j ≤ x.items.length ∧ j % 2 = 0 ∧ v7 = .int .i64 (j : Int) ∧ FM w H (w.heap.size + 1) K (K + 1) M2 #[.int .i64 x.kind, .int .u64 x.n, .slice ba x.bytes.length bc, .slice ia x.items.length ic] (keyQ q a) wr Hr ∧ KeyA Hr q a ∧ kfoldP q (x.items.drop j) = kfoldP nilKy x.items) (fun v7 _ => x.items.length - (intOf v7).toNat)
  case atStart => exact ⟨0, nilKy, ⟨none, 0, none, 0, none, 0, none, 0⟩, H, Nat.zero_le _, rfl, rfl, hFM, ⟨by simp [nilKy], by simp [nilKy], by simp [nilKy], IsBytes.nil _, IsBytes.nil _, IsBytes.nil _, IsBytes.nil _⟩, by rw [List.drop_zero]⟩
  case round =>
    clear hFM
    obtain ⟨j, q, a, Hr, hj, hje, rfl, hFM, hka, hfo⟩ := hrel
    have HJE := Lib.hid hje
    have HKA := Lib.hid hka
    have HFO := Lib.hid hfo
    clear hje hka hfo
    have a3 := hFM.box.cell 3 rfl
    by_cases hlt : j < x.items.length
    case neg =>
      have hkl : j = x.items.length := by omega
      subst hkl
      clear hlt hj
      have HF : Hid (kfoldP nilKy x.items = some q) := by rw [Hid, ← HFO.out, List.drop_length, kfoldP_nil]
      clear HFO
      have k0 := hFM.kn.key.cell 0 rfl
      have k1 := hFM.kn.key.cell 1 rfl
      have k2 := hFM.kn.key.cell 2 rfl
      have k3 := hFM.kn.key.cell 3 rfl
      have k4 := hFM.kn.key.cell 4 rfl
      have k5 := hFM.kn.key.cell 5 rfl
      have k6 := hFM.kn.key.cell 6 rfl
      go_wp2_with fail
      refine (key_ToItem (HT.out.mono hFM.kn.grows.le) HKA.out _ hFM.kn.grows.holds).mono ?_
      rintro e w9 ⟨v9, rfl, ya, yb, yc, yd, H9, rfl, hG9, hI9⟩
      replace hFM := (hFM.grow hG9)
      replace HKA := Lib.hid (HKA.out.mono hG9.le)
      clear k0 k1 k2 k3 k4 k5 k6 a3 hG9
      cases hvq : validK q with
      | false =>
        have HNK : Hid (¬ ∃ q, IsKeyI x q) := fun ⟨q2, h2⟩ => by
          have e := HF.out
          rw [kfoldP_key h2] at e
          obtain rfl := Option.some.inj e
          rw [h2.1] at hvq
          cases hvq
        have E : Hid (codeK q = 1 ∧ itmK q = zeroItm) := ⟨by rw [codeK, if_neg (by rw [hvq]; simp)], by rw [itmK, if_neg (by rw [hvq]; simp)]⟩
        rw [E.out.1, E.out.2]
        clear hvq hI9
        replace hFM := hFM.alloc (itemO zeroItm ya yb yc yd)
        go_upto_region 22 with fail
        have hRR := hFM.kn.res
        have HGF := Lib.hid hFM.kn
        clear hFM
        go_wp2_with (with_reducible refine stop_store ?_)
        unfold Stopped
        refine wpList_store_item rfl _ _ _ rfl rfl _ _ rfl rfl _ _ hRR size_key rfl (one7 _ _ _ _ _ _ _ rfl rfl rfl rfl rfl rfl rfl) fun wz hRz hgz => ?_
        have hdz := HGF.out.grows.grownOwn HGF.out.hR HGF.out.wR hgz
        clear HGF hRR hgz
        go_wp2_with fail
        refine ret_row_tmp rfl rfl hRz rfl rfl size_key rfl ?_
        exact .inr (.inl ⟨HV.out, HNK.out, rfl, hdz.below⟩)
      | true =>
        have E : Hid (codeK q = 0 ∧ itmK q = itemK q) := ⟨by rw [codeK, if_pos hvq], by rw [itmK, if_pos hvq]⟩
        have HVQ := Lib.hid hvq
        rw [E.out.1, E.out.2]
        rw [E.out.2] at hI9
        have HVY := Lib.hid (validP_itemK hvq)
        obtain ⟨y, hy⟩ : ∃ y, itemK q = y := ⟨_, rfl⟩
        have HY := Lib.hid hy
        rw [hy] at hI9 ⊢
        rw [HY.out] at HVY
        have HIX := Lib.hid (And.intro (HI.out.mono hFM.kn.grows.le) hI9)
        replace hFM := hFM.alloc (itemO y ya yb yc yd)
        have x0 := hFM.box.cell 0 rfl
        have x1 := hFM.box.cell 1 rfl
        have x2 := hFM.box.cell 2 rfl
        have x3 := hFM.box.cell 3 rfl
        clear hvq hI9 hy
        go_wp2_with fail
        refine (cbor_Cmp (HT.out.mono hFM.kn.grows.le) HIX.out.1 HIX.out.2 HV.out HVY.out _ hFM.kn.grows.holds).mono ?_
        rintro e w10 ⟨rfl, hb10⟩
        replace hFM := hFM.below hb10
        clear hb10 x0 x1 x2 x3
        obtain ⟨cm, hcm⟩ : ∃ cm, Lib.compareBytes (encB x) (encB y) = cm := ⟨_, rfl⟩
        rw [hcm]
        by_cases hc0 : cm = 0
        case neg =>
          have HNK : Hid (¬ ∃ q, IsKeyI x q) := fun ⟨q2, h2⟩ => by
            have e := HF.out
            rw [kfoldP_key h2] at e
            obtain rfl := Option.some.inj e
            have e2 : x = y := by rw [← h2.2]; exact HY.out
            rw [e2, cmp_refl] at hcm
            exact hc0 hcm.symm
          have bc0 : (cm != 0) = true := by simp [hc0]
          have pc0 : (cm = 0) = False := eq_false hc0
          clear hc0 hcm
          have hRR := hFM.kn.res
          have HGF := Lib.hid hFM.kn
          clear hFM
          go_wp2_with (with_reducible refine stop_store ?_)
          unfold Stopped
          refine wpList_store_item rfl _ _ _ rfl rfl _ _ rfl rfl _ _ hRR size_key rfl (one7 _ _ _ _ _ _ _ rfl rfl rfl rfl rfl rfl rfl) fun wz hRz hgz => ?_
          have hdz := HGF.out.grows.grownOwn HGF.out.hR HGF.out.wR hgz
          clear HGF hRR hgz
          go_wp2_with fail
          refine ret_row_tmp rfl rfl hRz rfl rfl size_key rfl ?_
          exact .inr (.inl ⟨HV.out, HNK.out, rfl, hdz.below⟩)
        subst hc0
        have HXY : Hid (x = y) := by
          have e3 := (cmp_zero _ _).1 hcm
          exact (encB_inj x y 0 0 [] [] (Fits.of HV.out HIX.out.1.nums) (Fits.of HVY.out HIX.out.2.nums) (by rw [e3])).1
        clear hcm
        have k0 := hFM.kn.key.cell 0 rfl
        have k1 := hFM.kn.key.cell 1 rfl
        have k2 := hFM.kn.key.cell 2 rfl
        have k3 := hFM.kn.key.cell 3 rfl
        have k4 := hFM.kn.key.cell 4 rfl
        have k5 := hFM.kn.key.cell 5 rfl
        have k6 := hFM.kn.key.cell 6 rfl
        have hRR := hFM.kn.res
        have HGF := Lib.hid hFM.kn
        clear hFM
        go_wp2_with (with_reducible refine stop_store ?_)
        unfold Stopped
        refine wpList_store_item rfl _ _ _ rfl rfl _ _ rfl rfl _ _ hRR size_key rfl (one7 _ _ _ _ _ _ _ rfl rfl rfl rfl rfl rfl rfl) fun wz hRz hgz => ?_
        have hdz := HGF.out.grows.grownOwn HGF.out.hR HGF.out.wR hgz
        clear HGF hRR hgz
        go_wp2_with fail
        refine ret_row_tmp rfl rfl hRz rfl rfl size_key rfl ?_
        exact .inr (.inr ⟨q, a, _, HV.out, ⟨HVQ.out, by rw [HXY.out]; exact HY.out⟩, rfl, hdz, HKA.out⟩)
    have hlt1 : j + 1 < x.items.length := by have := HJE.out; have := HEV.out; omega
    have hl256 : x.items.length ≤ 256 := (validP_items HV.out).2.1
    have hltI : (j : Int) < x.items.length := by omega
    have hltI1 : (j : Int) + 1 < x.items.length := by omega
    have hj10 : (0 : Int) ≤ (j : Int) + 1 := by omega
    have hj63 : (j : Int) + 2 ≤ 9223372036854775807 := by omega
    have HW1 : IntKind.i64.wrap ((j : Int) + 1) = (j : Int) + 1 := IntWalk.i64_in _ (by omega)
    obtain ⟨ib, io, hia, hel⟩ := HI.out.items (by omega)
    obtain ⟨y1, y2, y3, y4, q0, q1, q2, q3, hey⟩ := hel.get j hlt
    obtain ⟨z1, z2, z3, z4, s0, s1, s2, s3, hez⟩ := hel.get (j + 1) hlt1
    subst hia
    have HST := Lib.hid (kfold_cons q x.items j hlt1)
    have HZB := Lib.hid (validP_elem HV.out (List.getElem_mem hlt1))
    have HJL := Lib.hid (And.intro hlt (And.intro hlt1 hl256))
    generalize x.items[j]'hlt = y at *
    generalize x.items[j + 1]'hlt1 = z at *
    have HYZ := Lib.hid (And.intro hey hez)
    have HS := Lib.hid (And.intro s0 (And.intro s1 (And.intro s2 s3)))
    have hh := hFM.kn.grows.holds.mono hFM.kn.grows.le
    have q0 := hh.cell q0
    have q1 := hh.cell q1
    have q2 := hh.cell q2
    have q3 := hh.cell q3
    clear hel hey hez s0 s1 s2 s3 hlt hlt1 hh hj hl256
    go_wp2_with fail
    refine (key_number HYZ.out.1.arg _).mono ?_
    intro e w5 hs
    unfold NumOut at hs
    have hrest : ∃ (ok : Bool) (k : Int), e = .returned (.tuple #[.int .i64 k, .bool ok]) ∧ Below wr.heap.size wr w5 ∧ (ok = true → nmP y = some k) ∧ (ok = false → nmP y = none ∧ k = 0) := by
      cases hn : nmP y with
      | none => rw [hn] at hs; exact ⟨false, 0, hs.1, hs.2, (fun h => by cases h), (fun _ => ⟨rfl, rfl⟩)⟩
      | some k => rw [hn] at hs; exact ⟨true, k, hs.1, hs.2, (fun _ => rfl), (fun h => by cases h)⟩
    clear hs
    obtain ⟨ok, k, rfl, hb5, hk1, hk2⟩ := hrest
    have HKO := Lib.hid (And.intro hk1 hk2)
    clear hk1 hk2
    replace hFM := hFM.below hb5
    clear hb5 q0 q1 q2 q3 a3
    have a3 := hFM.box.cell 3 rfl
    have hh := hFM.kn.grows.holds.mono hFM.kn.grows.le
    have s0 := hh.cell HS.out.1
    have s1 := hh.cell HS.out.2.1
    have s2 := hh.cell HS.out.2.2.1
    have s3 := hh.cell HS.out.2.2.2
    have hP := Blk.new w5 26 #[.int .i64 z.kind, .int .u64 z.n, .slice z1 z.bytes.length z2, .slice z3 z.items.length z4]
    replace hFM := hFM.alloc (itemO z z1 z2 z3 z4)
    clear hh
    go_wp2_with fail
    refine (key_number HYZ.out.2.arg _).mono ?_
    intro e w6 hs
    unfold NumOut at hs
    have hrest : ∃ (is : Bool) (n : Int), e = .returned (.tuple #[.int .i64 n, .bool is]) ∧ Below (w5.alloc (itemO z z1 z2 z3 z4)).heap.size (w5.alloc (itemO z z1 z2 z3 z4)) w6 ∧ (is = true → nmP z = some n) ∧ (is = false → nmP z = none ∧ n = 0) := by
      cases hn : nmP z with
      | none => rw [hn] at hs; exact ⟨false, 0, hs.1, hs.2, (fun h => by cases h), (fun _ => ⟨rfl, rfl⟩)⟩
      | some k => rw [hn] at hs; exact ⟨true, k, hs.1, hs.2, (fun _ => rfl), (fun h => by cases h)⟩
    clear hs
    obtain ⟨is, n, rfl, hb6, hn1, hn2⟩ := hrest
    have HNO := Lib.hid (And.intro hn1 hn2)
    clear hn1 hn2
    obtain ⟨P, hPe⟩ : ∃ P, w5.heap.size = P := ⟨_, rfl⟩
    rw [hPe] at hP ⊢
    replace hFM := hFM.below hb6
    replace hP := hP.below hb6
    clear hb6 s0 s1 s2 s3 a3 hPe
    have z0 := hP.cell 0 rfl
    have zb := hP.cell 2 rfl
    clear hP
    cases ok with
    | false =>
      obtain ⟨HY0, hk0⟩ := HKO.out.2 rfl
      subst hk0
      have HY0 := Lib.hid HY0
      have L2 : (Instr.lookup 71 (.map (some M2)) (.int .i64 0) false).run Tryz.prog w6 = .ok (.pointer none) w6 := by
        have hlk := run_mapLook Tryz.underlying71 Tryz.underlying3 hFM.m2 (Tryz.zeroValue70 w6) (0)
        rw [show lookE (ents2 K) 0 = none from rfl] at hlk
        exact hlk
      have HFN : Hid (kfoldP nilKy x.items = none) := by rw [Hid, ← HFO.out, HST.out]; rw [kstepP, HY0.out]
      clear HST
      have hRR := hFM.kn.res
      have HGF := Lib.hid hFM.kn
      clear hFM
      go_wp2_with (with_reducible refine stop_store ?_)
      unfold Stopped
      refine wpList_store_item rfl _ _ _ rfl rfl _ _ rfl rfl _ _ hRR size_key rfl (one7 _ _ _ _ _ _ _ rfl rfl rfl rfl rfl rfl rfl) fun wz hRz hgz => ?_
      have hdz := HGF.out.grows.grownOwn HGF.out.hR HGF.out.wR hgz
      clear HGF hRR hgz
      go_wp2_with fail
      refine ret_row_tmp rfl rfl hRz rfl rfl size_key rfl ?_
      exact .inr (.inl ⟨HV.out, no_key HFN.out, rfl, hdz.below⟩)
    | true =>
    have HYK := Lib.hid (HKO.out.1 rfl)
    clear HKO
    cases is with
    | true =>
      have HZN := Lib.hid (HNO.out.1 rfl)
      clear HNO
      have HST2 : Hid (kstepP q y z = setNum q k n) := by rw [Hid, kstepP, HYK.out]; simp only [HZN.out]
      have hzk : ¬ z.kind = 2 := fun h => by
        obtain ⟨zk, zn, zbs, zl⟩ := z
        have e := HZN.out
        simp only [Itm.kind] at h
        subst h
        rw [nmP_two] at e
        cases e
      have bz2 : (z.kind == 2) = false := by rw [beq_eq_false_iff_ne]; exact hzk
      have pz2 : (z.kind = 2) = False := eq_false hzk
      clear hzk
      have hnr : -9223372036854775808 ≤ n ∧ n ≤ 9223372036854775807 := nmP_range HZN.out
      have HNR := Lib.hid hnr
      clear hnr
      by_cases hk0 : k = 1
      · subst hk0
        have L1 : (Instr.lookup 69 (.map (some (K + 1))) (.int .i64 1) false).run Tryz.prog w6 = .ok (.pointer (some ⟨K, 0, none⟩)) w6 := by
          have hlk := run_mapLook Tryz.underlying69 Tryz.underlying3 hFM.m1 (Tryz.zeroValue68 w6) (1)
          exact hlk
        go_wp2_with (with_reducible refine stop_store ?_)
        unfold Stopped
        refine wpList_store_cell rfl _ _ _ rfl rfl K 0 (.int .i64 n) rfl rfl _ _ hFM.kn.key (by kernel_rfl) (by simp) rfl fun wt hBt hgt => ?_
        replace hFM := hFM.set (kc' := keyQ { q with kty := n } a) hBt hgt
        clear hBt hgt L1 z0 zb
        go_wp2_with fail
        go_roundw
        case rel => exact ⟨j + 2, { q with kty := n }, a, _, by have := HJL.out; omega, by have := HJE.out; omega, by go_num, hFM, ⟨HNR.out, HKA.out.crv, HKA.out.alg, HKA.out.kid, HKA.out.x, HKA.out.d, HKA.out.k⟩, by rw [← HFO.out, HST.out, HST2.out]; rfl⟩
        case measure => have := HJL.out; simp [intOf]; omega
      by_cases hk2 : k = 3
      · subst hk2
        have L1 : (Instr.lookup 69 (.map (some (K + 1))) (.int .i64 3) false).run Tryz.prog w6 = .ok (.pointer (some ⟨K, 2, none⟩)) w6 := by
          have hlk := run_mapLook Tryz.underlying69 Tryz.underlying3 hFM.m1 (Tryz.zeroValue68 w6) (3)
          exact hlk
        go_wp2_with (with_reducible refine stop_store ?_)
        unfold Stopped
        refine wpList_store_cell rfl _ _ _ rfl rfl K 2 (.int .i64 n) rfl rfl _ _ hFM.kn.key (by kernel_rfl) (by simp) rfl fun wt hBt hgt => ?_
        replace hFM := hFM.set (kc' := keyQ { q with alg := n } a) hBt hgt
        clear hBt hgt L1 z0 zb
        go_wp2_with fail
        go_roundw
        case rel => exact ⟨j + 2, { q with alg := n }, a, _, by have := HJL.out; omega, by have := HJE.out; omega, by go_num, hFM, ⟨HKA.out.kty, HKA.out.crv, HNR.out, HKA.out.kid, HKA.out.x, HKA.out.d, HKA.out.k⟩, by rw [← HFO.out, HST.out, HST2.out]; rfl⟩
        case measure => have := HJL.out; simp [intOf]; omega
      by_cases hk1 : k = -1
      · subst hk1
        have L1 : (Instr.lookup 69 (.map (some (K + 1))) (.int .i64 (-1)) false).run Tryz.prog w6 = .ok (.pointer (some ⟨K, 1, none⟩)) w6 := by
          have hlk := run_mapLook Tryz.underlying69 Tryz.underlying3 hFM.m1 (Tryz.zeroValue68 w6) ((-1))
          exact hlk
        go_wp2_with (with_reducible refine stop_store ?_)
        unfold Stopped
        refine wpList_store_cell rfl _ _ _ rfl rfl K 1 (.int .i64 n) rfl rfl _ _ hFM.kn.key (by kernel_rfl) (by simp) rfl fun wt hBt hgt => ?_
        replace hFM := hFM.set (kc' := keyQ { q with crv := n } a) hBt hgt
        clear hBt hgt L1 z0 zb
        go_wp2_with fail
        go_roundw
        case rel => exact ⟨j + 2, { q with crv := n }, a, _, by have := HJL.out; omega, by have := HJE.out; omega, by go_num, hFM, ⟨HKA.out.kty, HNR.out, HKA.out.alg, HKA.out.kid, HKA.out.x, HKA.out.d, HKA.out.k⟩, by rw [← HFO.out, HST.out, HST2.out]; rfl⟩
        case measure => have := HJL.out; simp [intOf]; omega
      have HK0 := Lib.hid (And.intro hk0 (And.intro hk2 hk1))
      have L1 : (Instr.lookup 69 (.map (some (K + 1))) (.int .i64 k) false).run Tryz.prog w6 = .ok (.pointer none) w6 := by
        have hlk := run_mapLook Tryz.underlying69 Tryz.underlying3 hFM.m1 (Tryz.zeroValue68 w6) (k)
        rw [lookE1_none hk0 hk2 hk1] at hlk
        exact hlk
      obtain ⟨u2, hu2⟩ : ∃ u2, (lookE (ents2 K) k).getD (.pointer none) = u2 := ⟨_, rfl⟩
      have L2 : (Instr.lookup 71 (.map (some M2)) (.int .i64 k) false).run Tryz.prog w6 = .ok (u2) w6 := by
        have hlk := run_mapLook Tryz.underlying71 Tryz.underlying3 hFM.m2 (Tryz.zeroValue70 w6) (k)
        rw [hu2] at hlk
        exact hlk
      have hu3 : u2 = .pointer none ∨ ∃ p, u2 = .pointer (some p) := by rw [← hu2]; exact lookE2_ptr K k
      clear hk0 hk1 hk2 hu2
      have HFN : Hid (kfoldP nilKy x.items = none) := by rw [Hid, ← HFO.out, HST.out, HST2.out, setNum, if_neg HK0.out.1, if_neg HK0.out.2.1, if_neg HK0.out.2.2]
      clear HST
      rcases hu3 with rfl | ⟨p, rfl⟩
      · have hRR := hFM.kn.res
        have HGF := Lib.hid hFM.kn
        clear hFM
        go_wp2_with (with_reducible refine stop_store ?_)
        unfold Stopped
        refine wpList_store_item rfl _ _ _ rfl rfl _ _ rfl rfl _ _ hRR size_key rfl (one7 _ _ _ _ _ _ _ rfl rfl rfl rfl rfl rfl rfl) fun wz hRz hgz => ?_
        have hdz := HGF.out.grows.grownOwn HGF.out.hR HGF.out.wR hgz
        clear HGF hRR hgz
        go_wp2_with fail
        refine ret_row_tmp rfl rfl hRz rfl rfl size_key rfl ?_
        exact .inr (.inl ⟨HV.out, no_key HFN.out, rfl, hdz.below⟩)
      · have hRR := hFM.kn.res
        have HGF := Lib.hid hFM.kn
        clear hFM
        go_wp2_with (with_reducible refine stop_store ?_)
        unfold Stopped
        refine wpList_store_item rfl _ _ _ rfl rfl _ _ rfl rfl _ _ hRR size_key rfl (one7 _ _ _ _ _ _ _ rfl rfl rfl rfl rfl rfl rfl) fun wz hRz hgz => ?_
        have hdz := HGF.out.grows.grownOwn HGF.out.hR HGF.out.wR hgz
        clear HGF hRR hgz
        go_wp2_with fail
        refine ret_row_tmp rfl rfl hRz rfl rfl size_key rfl ?_
        exact .inr (.inl ⟨HV.out, no_key HFN.out, rfl, hdz.below⟩)
    | false =>
      obtain ⟨HZN, hn0⟩ := HNO.out.2 rfl
      subst hn0
      have HZN := Lib.hid HZN
      clear HNO
      by_cases hz2 : z.kind = 2
      case neg =>
        have HST2 : Hid (kstepP q y z = none) := by rw [Hid, kstepP, HYK.out]; simp only [HZN.out, if_neg hz2]
        have bz2 : (z.kind == 2) = false := by rw [beq_eq_false_iff_ne]; exact hz2
        have pz2 : (z.kind = 2) = False := eq_false hz2
        clear hz2
        obtain ⟨u2, hu2⟩ : ∃ u2, (lookE (ents2 K) k).getD (.pointer none) = u2 := ⟨_, rfl⟩
        have L2 : (Instr.lookup 71 (.map (some M2)) (.int .i64 k) false).run Tryz.prog w6 = .ok (u2) w6 := by
          have hlk := run_mapLook Tryz.underlying71 Tryz.underlying3 hFM.m2 (Tryz.zeroValue70 w6) (k)
          rw [hu2] at hlk
          exact hlk
        have hu3 : u2 = .pointer none ∨ ∃ p, u2 = .pointer (some p) := by rw [← hu2]; exact lookE2_ptr K k
        clear hu2
        have HFN : Hid (kfoldP nilKy x.items = none) := by rw [Hid, ← HFO.out, HST.out, HST2.out]
        clear HST
        rcases hu3 with rfl | ⟨p, rfl⟩
        · have hRR := hFM.kn.res
          have HGF := Lib.hid hFM.kn
          clear hFM
          go_wp2_with (with_reducible refine stop_store ?_)
          unfold Stopped
          refine wpList_store_item rfl _ _ _ rfl rfl _ _ rfl rfl _ _ hRR size_key rfl (one7 _ _ _ _ _ _ _ rfl rfl rfl rfl rfl rfl rfl) fun wz hRz hgz => ?_
          have hdz := HGF.out.grows.grownOwn HGF.out.hR HGF.out.wR hgz
          clear HGF hRR hgz
          go_wp2_with fail
          refine ret_row_tmp rfl rfl hRz rfl rfl size_key rfl ?_
          exact .inr (.inl ⟨HV.out, no_key HFN.out, rfl, hdz.below⟩)
        · have hRR := hFM.kn.res
          have HGF := Lib.hid hFM.kn
          clear hFM
          go_wp2_with (with_reducible refine stop_store ?_)
          unfold Stopped
          refine wpList_store_item rfl _ _ _ rfl rfl _ _ rfl rfl _ _ hRR size_key rfl (one7 _ _ _ _ _ _ _ rfl rfl rfl rfl rfl rfl rfl) fun wz hRz hgz => ?_
          have hdz := HGF.out.grows.grownOwn HGF.out.hR HGF.out.wR hgz
          clear HGF hRR hgz
          go_wp2_with fail
          refine ret_row_tmp rfl rfl hRz rfl rfl size_key rfl ?_
          exact .inr (.inl ⟨HV.out, no_key HFN.out, rfl, hdz.below⟩)
      have HST2 : Hid (kstepP q y z = setStr q k z.bytes) := by rw [Hid, kstepP, HYK.out]; simp only [HZN.out, if_pos hz2]
      have bz2 : (z.kind == 2) = true := by rw [beq_iff_eq]; exact hz2
      have pz2 : (z.kind = 2) = True := eq_true hz2
      clear hz2
      by_cases hk3 : k = 2
      · subst hk3
        have L2 : (Instr.lookup 71 (.map (some M2)) (.int .i64 2) false).run Tryz.prog w6 = .ok (.pointer (some ⟨K, 3, none⟩)) w6 := by
          have hlk := run_mapLook Tryz.underlying71 Tryz.underlying3 hFM.m2 (Tryz.zeroValue70 w6) (2)
          exact hlk
        go_wp2_with fail
        refine (bytes_Clone _ z1 z.bytes z.bytes.length z2 rfl (by have := (validP_items HZB.out).1; omega) (Src.of_row (HYZ.out.2.mono hFM.kn.grows.le).bytes.row hFM.kn.grows.holds)).mono ?_
        rintro e w7 ⟨r7, rfl, hf7⟩
        obtain ⟨A7, c7, rfl, hjk⟩ := hf7.own.form
        clear hjk
        obtain ⟨H7, hG7, hb7, hjk⟩ := Fresh.snapB hFM.kn.grows.holds hf7
        clear hjk hf7
        replace hFM := hFM.grow hG7
        replace HKA := Lib.hid (HKA.out.mono hG7.le)
        have HB7 := Lib.hid hb7
        clear hG7 hb7 L2 z0 zb
        go_wp2_with (with_reducible refine stop_store ?_)
        unfold Stopped
        refine wpList_store_cell rfl _ _ _ rfl rfl K 3 (.slice A7 z.bytes.length c7) rfl rfl _ _ hFM.kn.key (by kernel_rfl) (by simp) rfl fun wt hBt hgt => ?_
        replace hFM := hFM.set (kc' := keyQ { q with kid := z.bytes } { a with ia := A7, ic := c7 }) hBt hgt
        clear hBt hgt
        go_wp2_with fail
        go_roundw
        case rel => exact ⟨j + 2, { q with kid := z.bytes }, { a with ia := A7, ic := c7 }, _, by have := HJL.out; omega, by have := HJE.out; omega, by go_num, hFM, ⟨HKA.out.kty, HKA.out.crv, HKA.out.alg, HB7.out, HKA.out.x, HKA.out.d, HKA.out.k⟩, by rw [← HFO.out, HST.out, HST2.out]; rfl⟩
        case measure => have := HJL.out; simp [intOf]; omega
      by_cases hk6 : k = -1
      · subst hk6
        have L2 : (Instr.lookup 71 (.map (some M2)) (.int .i64 (-1)) false).run Tryz.prog w6 = .ok (.pointer (some ⟨K, 6, none⟩)) w6 := by
          have hlk := run_mapLook Tryz.underlying71 Tryz.underlying3 hFM.m2 (Tryz.zeroValue70 w6) ((-1))
          exact hlk
        go_wp2_with fail
        refine (bytes_Clone _ z1 z.bytes z.bytes.length z2 rfl (by have := (validP_items HZB.out).1; omega) (Src.of_row (HYZ.out.2.mono hFM.kn.grows.le).bytes.row hFM.kn.grows.holds)).mono ?_
        rintro e w7 ⟨r7, rfl, hf7⟩
        obtain ⟨A7, c7, rfl, hjk⟩ := hf7.own.form
        clear hjk
        obtain ⟨H7, hG7, hb7, hjk⟩ := Fresh.snapB hFM.kn.grows.holds hf7
        clear hjk hf7
        replace hFM := hFM.grow hG7
        replace HKA := Lib.hid (HKA.out.mono hG7.le)
        have HB7 := Lib.hid hb7
        clear hG7 hb7 L2 z0 zb
        go_wp2_with (with_reducible refine stop_store ?_)
        unfold Stopped
        refine wpList_store_cell rfl _ _ _ rfl rfl K 6 (.slice A7 z.bytes.length c7) rfl rfl _ _ hFM.kn.key (by kernel_rfl) (by simp) rfl fun wt hBt hgt => ?_
        replace hFM := hFM.set (kc' := keyQ { q with k := z.bytes } { a with ka := A7, kc := c7 }) hBt hgt
        clear hBt hgt
        go_wp2_with fail
        go_roundw
        case rel => exact ⟨j + 2, { q with k := z.bytes }, { a with ka := A7, kc := c7 }, _, by have := HJL.out; omega, by have := HJE.out; omega, by go_num, hFM, ⟨HKA.out.kty, HKA.out.crv, HKA.out.alg, HKA.out.kid, HKA.out.x, HKA.out.d, HB7.out⟩, by rw [← HFO.out, HST.out, HST2.out]; rfl⟩
        case measure => have := HJL.out; simp [intOf]; omega
      by_cases hk4 : k = -2
      · subst hk4
        have L2 : (Instr.lookup 71 (.map (some M2)) (.int .i64 (-2)) false).run Tryz.prog w6 = .ok (.pointer (some ⟨K, 4, none⟩)) w6 := by
          have hlk := run_mapLook Tryz.underlying71 Tryz.underlying3 hFM.m2 (Tryz.zeroValue70 w6) ((-2))
          exact hlk
        go_wp2_with fail
        refine (bytes_Clone _ z1 z.bytes z.bytes.length z2 rfl (by have := (validP_items HZB.out).1; omega) (Src.of_row (HYZ.out.2.mono hFM.kn.grows.le).bytes.row hFM.kn.grows.holds)).mono ?_
        rintro e w7 ⟨r7, rfl, hf7⟩
        obtain ⟨A7, c7, rfl, hjk⟩ := hf7.own.form
        clear hjk
        obtain ⟨H7, hG7, hb7, hjk⟩ := Fresh.snapB hFM.kn.grows.holds hf7
        clear hjk hf7
        replace hFM := hFM.grow hG7
        replace HKA := Lib.hid (HKA.out.mono hG7.le)
        have HB7 := Lib.hid hb7
        clear hG7 hb7 L2 z0 zb
        go_wp2_with (with_reducible refine stop_store ?_)
        unfold Stopped
        refine wpList_store_cell rfl _ _ _ rfl rfl K 4 (.slice A7 z.bytes.length c7) rfl rfl _ _ hFM.kn.key (by kernel_rfl) (by simp) rfl fun wt hBt hgt => ?_
        replace hFM := hFM.set (kc' := keyQ { q with x := z.bytes } { a with xa := A7, xc := c7 }) hBt hgt
        clear hBt hgt
        go_wp2_with fail
        go_roundw
        case rel => exact ⟨j + 2, { q with x := z.bytes }, { a with xa := A7, xc := c7 }, _, by have := HJL.out; omega, by have := HJE.out; omega, by go_num, hFM, ⟨HKA.out.kty, HKA.out.crv, HKA.out.alg, HKA.out.kid, HB7.out, HKA.out.d, HKA.out.k⟩, by rw [← HFO.out, HST.out, HST2.out]; rfl⟩
        case measure => have := HJL.out; simp [intOf]; omega
      by_cases hk5 : k = -4
      · subst hk5
        have L2 : (Instr.lookup 71 (.map (some M2)) (.int .i64 (-4)) false).run Tryz.prog w6 = .ok (.pointer (some ⟨K, 5, none⟩)) w6 := by
          have hlk := run_mapLook Tryz.underlying71 Tryz.underlying3 hFM.m2 (Tryz.zeroValue70 w6) ((-4))
          exact hlk
        go_wp2_with fail
        refine (bytes_Clone _ z1 z.bytes z.bytes.length z2 rfl (by have := (validP_items HZB.out).1; omega) (Src.of_row (HYZ.out.2.mono hFM.kn.grows.le).bytes.row hFM.kn.grows.holds)).mono ?_
        rintro e w7 ⟨r7, rfl, hf7⟩
        obtain ⟨A7, c7, rfl, hjk⟩ := hf7.own.form
        clear hjk
        obtain ⟨H7, hG7, hb7, hjk⟩ := Fresh.snapB hFM.kn.grows.holds hf7
        clear hjk hf7
        replace hFM := hFM.grow hG7
        replace HKA := Lib.hid (HKA.out.mono hG7.le)
        have HB7 := Lib.hid hb7
        clear hG7 hb7 L2 z0 zb
        go_wp2_with (with_reducible refine stop_store ?_)
        unfold Stopped
        refine wpList_store_cell rfl _ _ _ rfl rfl K 5 (.slice A7 z.bytes.length c7) rfl rfl _ _ hFM.kn.key (by kernel_rfl) (by simp) rfl fun wt hBt hgt => ?_
        replace hFM := hFM.set (kc' := keyQ { q with d := z.bytes } { a with da := A7, dc := c7 }) hBt hgt
        clear hBt hgt
        go_wp2_with fail
        go_roundw
        case rel => exact ⟨j + 2, { q with d := z.bytes }, { a with da := A7, dc := c7 }, _, by have := HJL.out; omega, by have := HJE.out; omega, by go_num, hFM, ⟨HKA.out.kty, HKA.out.crv, HKA.out.alg, HKA.out.kid, HKA.out.x, HB7.out, HKA.out.k⟩, by rw [← HFO.out, HST.out, HST2.out]; rfl⟩
        case measure => have := HJL.out; simp [intOf]; omega
      have HK0 := Lib.hid (And.intro hk3 (And.intro hk6 (And.intro hk4 hk5)))
      have L2 : (Instr.lookup 71 (.map (some M2)) (.int .i64 k) false).run Tryz.prog w6 = .ok (.pointer none) w6 := by
        have hlk := run_mapLook Tryz.underlying71 Tryz.underlying3 hFM.m2 (Tryz.zeroValue70 w6) (k)
        rw [lookE2_none hk3 hk6 hk4 hk5] at hlk
        exact hlk
      clear hk3 hk4 hk5 hk6
      have HFN : Hid (kfoldP nilKy x.items = none) := by rw [Hid, ← HFO.out, HST.out, HST2.out, setStr, if_neg HK0.out.1, if_neg HK0.out.2.1, if_neg HK0.out.2.2.1, if_neg HK0.out.2.2.2]
      clear HST
      have hRR := hFM.kn.res
      have HGF := Lib.hid hFM.kn
      clear hFM
      go_wp2_with (with_reducible refine stop_store ?_)
      unfold Stopped
      refine wpList_store_item rfl _ _ _ rfl rfl _ _ rfl rfl _ _ hRR size_key rfl (one7 _ _ _ _ _ _ _ rfl rfl rfl rfl rfl rfl rfl) fun wz hRz hgz => ?_
      have hdz := HGF.out.grows.grownOwn HGF.out.hR HGF.out.wR hgz
      clear HGF hRR hgz
      go_wp2_with fail
      refine ret_row_tmp rfl rfl hRz rfl rfl size_key rfl ?_
      exact .inr (.inl ⟨HV.out, no_key HFN.out, rfl, hdz.below⟩)
end Go.Proofs.YtebcnkelbicbnaaGreatDoor
namespace Go.Proofs.YtebcnkelbicbnaaGreatDoor
open Go.RowKit

/-- The state of the reading: the item's box beside a key that is filled. -/
structure FR (W0 : World) (H : Snap) (R K : Nat) (xc kc : Array Value) (w : World) (Hr : Snap) : Prop where
  kn : KN W0 H R K kc w Hr
  box : Blk w W0.heap.size 26 xc
  nb : K ≠ W0.heap.size
section
variable {W0 w w' : World} {H Hr Hs : Snap} {R K : Nat} {xc kc kc' : Array Value}
end
end Go.Proofs.YtebcnkelbicbnaaGreatDoor
