/- squeezed. Walks: the public part of a key, b -/
import Derived.Test.YtmacemcajlgddaaGreatDoorK48
set_option linter.unusedVariables false
set_option linter.unusedSimpArgs false
set_option maxRecDepth 100000
set_option maxHeartbeats 12800000
namespace Go.Proofs.YtmacemcajlgddaaGreatDoor
open Go.RowKit
theorem key_Public {H : Snap} {q : Ky} {a : KAd} (hq : KeyA H q a) (w : World) (hH : Holds w H) :
  Calls Tryz.prog 8 #[.agg (keyQ q a)] w (PubOut w H q) := by
 obtain ⟨ni, hni⟩ : ∃ ni, ni = q.kid.length := ⟨_, rfl⟩
 obtain ⟨nx, hnx⟩ : ∃ nx, nx = q.x.length := ⟨_, rfl⟩
 obtain ⟨nd, hnd⟩ : ∃ nd, nd = q.d.length := ⟨_, rfl⟩
 obtain ⟨nk, hnk⟩ : ∃ nk, nk = q.k.length := ⟨_, rfl⟩
 have HN := Hh (And.intro hni (And.intro hnx (And.intro hnd hnk)));have V : Hid (∀ W, Calls Tryz.prog 20 #[.agg (keyC q.kty q.crv q.alg a.ia q.kid.length a.ic a.xa q.x.length a.xc a.da q.d.length a.dc a.ka q.k.length a.kc)] W fun e w' => e = .returned (.bool (validK q)) ∧ Below W.heap.size W w') := fun W => key_ValidN q.kty q.crv q.alg a.ia q.kid.length a.ic a.xa q.x.length a.xc a.da q.d.length a.dc a.ka q.k.length a.kc W hq.len.1 hq.len.2
 show Calls Tryz.prog 8 #[.agg (keyC q.kty q.crv q.alg a.ia q.kid.length a.ic a.xa q.x.length a.xc a.da q.d.length a.dc a.ka q.k.length a.kc)] w (PubOut w H q)
 rw [← hni, ← hnx, ← hnd, ← hnk] at V ⊢;have HBi := Hh hq.kid;have HBx := Hh hq.x;have HQ := Hh (And.intro hq.kty (And.intro hq.crv hq.alg));have hB1 := (Blk.new w 24 (keyC q.kty q.crv q.alg a.ia ni a.ic a.xa nx a.xc a.da nd a.dc a.ka nk a.kc)).alloc (.cells zeroK 24);have hT := Blk.new (w.alloc (.cells (keyC q.kty q.crv q.alg a.ia ni a.ic a.xa nx a.xc a.da nd a.dc a.ka nk a.kc) 24)) 24 zeroK;rw [size_alloc] at hT;have hKN : KN w H (w.heap.size + 1) w.heap.size (keyC q.kty q.crv q.alg a.ia ni a.ic a.xa nx a.xc a.da nd a.dc a.ka nk a.kc) _ H := ⟨((Grows.refl hH).alloc (.cells (keyC q.kty q.crv q.alg a.ia ni a.ic a.xa nx a.xc a.da nd a.dc a.ka nk a.kc) 24)).alloc (.cells zeroK 24), hT, hB1, hH.none_of_ge (by omega), hH.none_of_ge (by omega), by omega, by omega, by omega⟩
 have c0 := hB1.cell 0 rfl;have c1 := hB1.cell 1 rfl;have c2 := hB1.cell 2 rfl;have c3 := hB1.cell 3 rfl;have c4 := hB1.cell 4 rfl;have c5 := hB1.cell 5 rfl;have c6 := hB1.cell 6 rfl;clear hni hnx hnd hnk hq hH hB1 hT;go_enter Tryz.func8, Tryz.ntmps8
 go_wp2_with fail
 refine (V.out _).mono ?_
 rintro e w3 ⟨rfl, hb3⟩
 replace hKN := hKN.below hb3;clear hb3 V c0 c1 c2 c3 c4 c5 c6
 cases hv : validK q with
 | false =>
  have E := Hh (pub_no hv);clear hv;have HK := Hh hKN;have hRR := hKN.res;clear hKN;go_wp2_with (with_reducible refine stop_store ?_)
  refine wpList_store_item rfl _ _ _ rfl rfl _ _ rfl rfl _ _ hRR size_key rfl (one7 _ _ _ _ _ _ _ rfl rfl rfl rfl rfl rfl rfl) fun w9 hT9 hg9 => ?_
  have hd9 := HK.out.grows.grownOwn HK.out.hR HK.out.wR hg9;clear hRR hg9;go_wp2_with fail
  refine ret_row_tmp rfl rfl hT9 rfl rfl size_key rfl ?_
  exact ⟨⟨none, 0, none, 0, none, 0, none, 0⟩, _, by rw [E.out.1, E.out.2]; rfl, hd9, by rw [E.out.2]; exact zeroA _⟩
 | true =>
  have HV := Hh hv;clear hv;obtain ⟨t, ht⟩ : ∃ t, q.kty = t := ⟨_, rfl⟩
  rw [ht] at hKN HQ;have HTT := Hh ht;clear ht;have c0 := hKN.key.cell 0 rfl;have c4 := hKN.key.cell 4 rfl
  by_cases h1 : t = 4
  ·subst h1;have E := Hh (pub_12 HV.out (.inl HTT.out));have HK := Hh hKN;have hRR := hKN.res;clear hKN;go_wp2_with (with_reducible refine stop_store ?_)
   refine wpList_store_item rfl _ _ _ rfl rfl _ _ rfl rfl _ _ hRR size_key rfl (one7 _ _ _ _ _ _ _ rfl rfl rfl rfl rfl rfl rfl) fun w9 hT9 hg9 => ?_
   have hd9 := HK.out.grows.grownOwn HK.out.hR HK.out.wR hg9;clear hRR hg9;go_wp2_with fail
   refine ret_row_tmp rfl rfl hT9 rfl rfl size_key rfl ?_
   exact ⟨⟨none, 0, none, 0, none, 0, none, 0⟩, _, by rw [E.out.1, E.out.2]; rfl, hd9, by rw [E.out.2]; exact zeroA _⟩
  ·have b1 : (t = 4) = False := eq_false h1;have b2 : (t == 4) = false := by rw [beq_eq_false_iff_ne]; exact h1
   by_cases hx : nx = 0
   ·subst hx;have E := Hh (pub_12 HV.out (.inr HN.out.2.1.symm));have HK := Hh hKN;have hRR := hKN.res;clear hKN h1;go_wp2_with (with_reducible refine stop_store ?_)
    refine wpList_store_item rfl _ _ _ rfl rfl _ _ rfl rfl _ _ hRR size_key rfl (one7 _ _ _ _ _ _ _ rfl rfl rfl rfl rfl rfl rfl) fun w9 hT9 hg9 => ?_
    have hd9 := HK.out.grows.grownOwn HK.out.hR HK.out.wR hg9;clear hRR hg9;go_wp2_with fail
    refine ret_row_tmp rfl rfl hT9 rfl rfl size_key rfl ?_
    exact ⟨⟨none, 0, none, 0, none, 0, none, 0⟩, _, by rw [E.out.1, E.out.2]; rfl, hd9, by rw [E.out.2]; exact zeroA _⟩
   ·have E : Hid (pubC q = 0 ∧ pubK q = ⟨q.kty, q.crv, q.alg, q.kid, q.x, [], []⟩) := pub_ok HV.out (by rw [HTT.out, ← HN.out.2.1]; exact fun h => h.elim h1 hx);have HK0 : Hid (q.k = []) := okp_k HV.out (by rw [HTT.out]; exact h1);have HLN : Hid (q.kid.length ≤ 64 ∧ q.x.length ≤ 64 ∧ q.d.length ≤ 64 ∧ q.k.length ≤ 64) := validK_len HV.out;have b3 : (nx = 0) = False := eq_false hx;have b4 : ((nx : Int) = 0) = False := eq_false (by omega);have b5 : ((nx : Int) == 0) = false := by rw [beq_eq_false_iff_ne]; omega
    clear hx h1;go_upto_region 5 with fail
    clear c0 c4;replace hKN := hKN.drew
    refine wp_region_waysZ 13 (fun wx => wx.cell? ⟨w.heap.size, 0, none⟩ = some (.int .i64 t) ∧ wx.cell? ⟨w.heap.size, 1, none⟩ = some (.int .i64 q.crv) ∧ wx.cell? ⟨w.heap.size, 2, none⟩ = some (.int .i64 q.alg) ∧ wx.cell? ⟨w.heap.size, 3, none⟩ = some (.slice a.ia ni a.ic) ∧ wx.cell? ⟨w.heap.size, 4, none⟩ = some (.slice a.xa nx a.xc)) (by kernel_rfl) (⟨hKN.key.cell 0 rfl, hKN.key.cell 1 rfl, hKN.key.cell 2 rfl, hKN.key.cell 3 rfl, hKN.key.cell 4 rfl⟩) (fun hHeld => ?_)
    refine Zk 0 rfl hHeld ?_
    refine Zk 1 rfl hHeld ?_
    refine Zk 2 rfl hHeld ?_
    refine Zk 3 rfl hHeld ?_
    refine Zk 4 rfl hHeld ?_
    refine Zk 5 rfl hHeld ?_
    refine Zk 6 rfl hHeld ?_
    refine Zk 7 rfl hHeld ?_
    refine Zk 9 rfl hHeld ?_
    refine Zk 10 rfl hHeld ?_
    refine Zo 8 rfl fun K hK => ?_
    go_simp
    refine (bytes_Clone _ a.ia q.kid ni a.ic HN.out.1 (by have := HLN.out; omega) (Src.of_row HBi.out.row hKN.grows.holds)).mono ?_
    rintro e w8 ⟨r8, rfl, hf8⟩
    obtain ⟨A8, c8, rfl, hj8⟩ := hf8.own.form;clear hj8;obtain ⟨H8, hG8, hb8, hj8⟩ := Fresh.snapB hKN.grows.holds hf8;clear hj8;rw [← HN.out.1];have HR8 := Hh hb8;replace hKN := hKN.grow hG8;replace HBx := Hh (HBx.out.mono hG8.le);replace HBi := Hh (HBi.out.mono hG8.le)
    try replace HR11 := Hh (HR11.out.mono hG8.le)
    clear hG8 hb8 hf8
    refine hK.out _ _ (fun _ => ?_) (fun hHeld => ?_)
    ·exact ⟨hKN.key.cell 0 rfl, hKN.key.cell 1 rfl, hKN.key.cell 2 rfl, hKN.key.cell 3 rfl, hKN.key.cell 4 rfl⟩
    clear hK K;have hHeld := hHeld (by decide)
    try simp only [Act.put, zz1, zz2, zz3, zz4, zz5, zz6]
    refine Zo 11 rfl fun K hK => ?_
    go_simp
    refine (bytes_Clone _ a.xa q.x nx a.xc HN.out.2.1 (by have := HLN.out; omega) (Src.of_row HBx.out.row hKN.grows.holds)).mono ?_
    rintro e w11 ⟨r11, rfl, hf11⟩
    obtain ⟨A11, c11, rfl, hj11⟩ := hf11.own.form;clear hj11;obtain ⟨H11, hG11, hb11, hj11⟩ := Fresh.snapB hKN.grows.holds hf11;clear hj11;rw [← HN.out.2.1];have HR11 := Hh hb11;replace hKN := hKN.grow hG11;replace HBi := Hh (HBi.out.mono hG11.le);replace HBx := Hh (HBx.out.mono hG11.le)
    try replace HR8 := Hh (HR8.out.mono hG11.le)
    clear hG11 hb11 hf11
    refine hK.out _ _ (fun _ => ?_) (fun hHeld => ?_)
    ·exact ⟨hKN.key.cell 0 rfl, hKN.key.cell 1 rfl, hKN.key.cell 2 rfl, hKN.key.cell 3 rfl, hKN.key.cell 4 rfl⟩
    clear hK K;have hHeld := hHeld (by decide)
    try simp only [Act.put, zz1, zz2, zz3, zz4, zz5, zz6]
    refine Zk 12 rfl hHeld ?_
    refine Zo 13 rfl fun K hK => ?_
    rw [if_pos (by rfl)]
    refine wp_store_item _ _ _ rfl (w.heap.size + 1) (keyC t q.crv q.alg A8 ni c8 A11 nx c11 none 0 0 none 0 0) rfl rfl _ _ hKN.res size_key rfl (one7 _ _ _ _ _ _ _ rfl rfl rfl rfl rfl rfl rfl) fun w9 hT9 hg9 => ?_
    refine hK.out _ _ (fun h => absurd h (by decide)) (fun _ => ?_)
    clear hK K
    try simp only [Act.put, zz1, zz2, zz3, zz4, zz5, zz6]
    refine ZkT 14 rfl (fun h => absurd h (by decide)) ?_
    refine WaysZ.done (by kernel_rfl) ?_
    have hd9 := hKN.grows.grownOwn hKN.hR hKN.wR hg9
    try clear hHeld
    clear hg9;go_wp2_with fail
    refine ret_row_tmp rfl rfl hT9 rfl rfl size_key rfl ?_
    exact ⟨⟨A8, c8, A11, c11, none, 0, none, 0⟩, _, by rw [E.out.1, E.out.2, HTT.out, HN.out.1, HN.out.2.1]; rfl, hd9, by rw [E.out.2]; exact ⟨by rw [HTT.out]; exact HQ.out.1, HQ.out.2.1, HQ.out.2.2, HR8.out, HR11.out, IsBytes.nil _, IsBytes.nil _⟩⟩
theorem size_bytesc : (Tryz.prog.info? 22).map (·.size) = some 1 := by kernel_rfl
theorem ref11_Public {H : Snap} {q : Ky} {a : KAd} (hq : KeyA H q a) (w : World) (hH : Holds w H) :
  Calls Tryz.prog 9 #[.agg (keyQ q a)] w (PubOut w H q) := by
 obtain ⟨ni, hni⟩ : ∃ ni, ni = q.kid.length := ⟨_, rfl⟩
 obtain ⟨nx, hnx⟩ : ∃ nx, nx = q.x.length := ⟨_, rfl⟩
 obtain ⟨nd, hnd⟩ : ∃ nd, nd = q.d.length := ⟨_, rfl⟩
 obtain ⟨nk, hnk⟩ : ∃ nk, nk = q.k.length := ⟨_, rfl⟩
 have HN := Hh (And.intro hni (And.intro hnx (And.intro hnd hnk)));have V : Hid (∀ W, Calls Tryz.prog 22 #[.agg (keyC q.kty q.crv q.alg a.ia q.kid.length a.ic a.xa q.x.length a.xc a.da q.d.length a.dc a.ka q.k.length a.kc)] W fun e w' => e = .returned (.bool (validK q)) ∧ Below W.heap.size W w') := fun W => ref_ValidN q.kty q.crv q.alg a.ia q.kid.length a.ic a.xa q.x.length a.xc a.da q.d.length a.dc a.ka q.k.length a.kc W hq.len.1 hq.len.2
 have HQA := Hh hq;show Calls Tryz.prog 9 #[.agg (keyC q.kty q.crv q.alg a.ia q.kid.length a.ic a.xa q.x.length a.xc a.da q.d.length a.dc a.ka q.k.length a.kc)] w (PubOut w H q)
 rw [← hni, ← hnx, ← hnd, ← hnk] at V ⊢;have HBi := Hh hq.kid;have HBx := Hh hq.x;have HQ := Hh (And.intro hq.kty (And.intro hq.crv hq.alg));have hB1 := (Blk.new w 24 (keyC q.kty q.crv q.alg a.ia ni a.ic a.xa nx a.xc a.da nd a.dc a.ka nk a.kc)).alloc (.cells zeroK 24);have hT := Blk.new (w.alloc (.cells (keyC q.kty q.crv q.alg a.ia ni a.ic a.xa nx a.xc a.da nd a.dc a.ka nk a.kc) 24)) 24 zeroK;rw [size_alloc] at hT;have hKN : KN w H (w.heap.size + 1) w.heap.size (keyC q.kty q.crv q.alg a.ia ni a.ic a.xa nx a.xc a.da nd a.dc a.ka nk a.kc) _ H := ⟨((Grows.refl hH).alloc (.cells (keyC q.kty q.crv q.alg a.ia ni a.ic a.xa nx a.xc a.da nd a.dc a.ka nk a.kc) 24)).alloc (.cells zeroK 24), hT, hB1, hH.none_of_ge (by omega), hH.none_of_ge (by omega), by omega, by omega, by omega⟩
 have c0 := hB1.cell 0 rfl;have c1 := hB1.cell 1 rfl;have c2 := hB1.cell 2 rfl;have c3 := hB1.cell 3 rfl;have c4 := hB1.cell 4 rfl;have c5 := hB1.cell 5 rfl;have c6 := hB1.cell 6 rfl;clear hni hnx hnd hnk hq hH hB1 hT;go_enter Tryz.func9, Tryz.ntmps9
 go_wp2_with fail
 refine (V.out _).mono ?_
 rintro e w3 ⟨rfl, hb3⟩
 replace hKN := hKN.below hb3;clear hb3 V c0 c1 c2 c3 c4 c5 c6
 cases hv : validK q with
 | false =>
  have E := Hh (pub_no hv);clear hv;have HK := Hh hKN;have hRR := hKN.res;clear hKN;go_wp2_with (with_reducible refine stop_store ?_)
  refine wpList_store_item rfl _ _ _ rfl rfl _ _ rfl rfl _ _ hRR size_key rfl (one7 _ _ _ _ _ _ _ rfl rfl rfl rfl rfl rfl rfl) fun w9 hT9 hg9 => ?_
  have hd9 := HK.out.grows.grownOwn HK.out.hR HK.out.wR hg9;clear hRR hg9;go_wp2_with fail
  refine ret_row_tmp rfl rfl hT9 rfl rfl size_key rfl ?_
  exact ⟨⟨none, 0, none, 0, none, 0, none, 0⟩, _, by rw [E.out.1, E.out.2]; rfl, hd9, by rw [E.out.2]; exact zeroA _⟩
 | true =>
  have HV := Hh hv;clear hv;obtain ⟨t, ht⟩ : ∃ t, q.kty = t := ⟨_, rfl⟩
  rw [ht] at hKN HQ;have HTT := Hh ht;clear ht;have c0 := hKN.key.cell 0 rfl;have c4 := hKN.key.cell 4 rfl
  by_cases h1 : t = 4
  ·subst h1;have E := Hh (pub_12 HV.out (.inl HTT.out));have HK := Hh hKN;have hRR := hKN.res;clear hKN;go_wp2_with (with_reducible refine stop_store ?_)
   refine wpList_store_item rfl _ _ _ rfl rfl _ _ rfl rfl _ _ hRR size_key rfl (one7 _ _ _ _ _ _ _ rfl rfl rfl rfl rfl rfl rfl) fun w9 hT9 hg9 => ?_
   have hd9 := HK.out.grows.grownOwn HK.out.hR HK.out.wR hg9;clear hRR hg9;go_wp2_with fail
   refine ret_row_tmp rfl rfl hT9 rfl rfl size_key rfl ?_
   exact ⟨⟨none, 0, none, 0, none, 0, none, 0⟩, _, by rw [E.out.1, E.out.2]; rfl, hd9, by rw [E.out.2]; exact zeroA _⟩
  ·have b1 : (t = 4) = False := eq_false h1;have b2 : (t == 4) = false := by rw [beq_eq_false_iff_ne]; exact h1
   by_cases hx : nx = 0
   ·subst hx;have E := Hh (pub_12 HV.out (.inr HN.out.2.1.symm));have HK := Hh hKN;have hRR := hKN.res;clear hKN h1;go_wp2_with (with_reducible refine stop_store ?_)
    refine wpList_store_item rfl _ _ _ rfl rfl _ _ rfl rfl _ _ hRR size_key rfl (one7 _ _ _ _ _ _ _ rfl rfl rfl rfl rfl rfl rfl) fun w9 hT9 hg9 => ?_
    have hd9 := HK.out.grows.grownOwn HK.out.hR HK.out.wR hg9;clear hRR hg9;go_wp2_with fail
    refine ret_row_tmp rfl rfl hT9 rfl rfl size_key rfl ?_
    exact ⟨⟨none, 0, none, 0, none, 0, none, 0⟩, _, by rw [E.out.1, E.out.2]; rfl, hd9, by rw [E.out.2]; exact zeroA _⟩
   ·have E : Hid (pubC q = 0 ∧ pubK q = ⟨q.kty, q.crv, q.alg, q.kid, q.x, [], []⟩) := pub_ok HV.out (by rw [HTT.out, ← HN.out.2.1]; exact fun h => h.elim h1 hx);have HK0 : Hid (q.k = []) := okp_k HV.out (by rw [HTT.out]; exact h1);have HLN : Hid (q.kid.length ≤ 64 ∧ q.x.length ≤ 64 ∧ q.d.length ≤ 64 ∧ q.k.length ≤ 64) := validK_len HV.out;have b3 : (nx = 0) = False := eq_false hx;have b4 : ((nx : Int) = 0) = False := eq_false (by omega);have b5 : ((nx : Int) == 0) = false := by rw [beq_eq_false_iff_ne]; omega
    clear hx h1;have CP : Hid (∀ W, Holds W H → Calls Tryz.prog 14 #[.agg (keyC q.kty q.crv q.alg a.ia q.kid.length a.ic a.xa q.x.length a.xc a.da q.d.length a.dc a.ka q.k.length a.kc)] W (KeyOut W H q)) := fun W hW => ref11_Copy HQA.out (by have := HLN.out; omega) W hW
    rw [HTT.out, ← HN.out.1, ← HN.out.2.1, ← HN.out.2.2.1, ← HN.out.2.2.2] at CP;have c1 := hKN.key.cell 1 rfl;have c2 := hKN.key.cell 2 rfl;have c3 := hKN.key.cell 3 rfl;have c5 := hKN.key.cell 5 rfl;have c6 := hKN.key.cell 6 rfl;go_wp2_with fail
    refine (CP.out _ hKN.grows.holds).mono ?_
    rintro e w5 ⟨a2, H2, rfl, hG2, hk2⟩
    replace hKN := hKN.grow hG2;have HK2 := Hh hk2;have hkk : keyQ q a2 = keyC t q.crv q.alg a2.ia ni a2.ic a2.xa nx a2.xc a2.da nd a2.dc a2.ka nk a2.kc := by rw [HN.out.1, HN.out.2.1, HN.out.2.2.1, HN.out.2.2.2, ← HTT.out]
    rw [hkk];clear hG2 hk2 hkk CP c0 c1 c2 c3 c4 c5 c6 b1 b2 b3 b4 b5;have HKN := Hh hKN;have hKK := hKN.key;clear hKN;go_wp2_with (with_reducible refine stop_store ?_)
    refine wpList_store_item rfl _ _ _ rfl rfl _ _ rfl rfl _ _ hKK size_key rfl (one7 _ _ _ _ _ _ _ rfl rfl rfl rfl rfl rfl rfl) fun w6 hK6 hg6 => ?_
    have hKN6 := Hh (HKN.out.set hK6 hg6);clear HKN hKK hg6;go_wp2_with (with_reducible refine stop_store ?_)
    refine wpList_store_cell rfl _ _ _ rfl rfl w.heap.size 5 (.slice none 0 0) rfl rfl _ _ hK6 size_bytesc (by simp) rfl fun w7 hK7 hg7 => ?_
    have hKN7 := Hh (hKN6.out.set hK7 hg7);have c0 := hK7.cell 0 rfl;have c1 := hK7.cell 1 rfl;have c2 := hK7.cell 2 rfl;have c3 := hK7.cell 3 rfl;have c4 := hK7.cell 4 rfl;have c5 := hK7.cell 5 rfl;have c6 := hK7.cell 6 rfl;have hRR := hKN7.out.res;clear hKN6 hK6 hK7 hg7;go_wp2_with (with_reducible refine stop_store ?_)
    refine wpList_store_item rfl _ _ _ rfl rfl _ _ rfl rfl _ _ hRR size_key rfl (one7 _ _ _ _ _ _ _ rfl rfl rfl rfl rfl rfl rfl) fun w9 hT9 hg9 => ?_
    have hd9 := hKN7.out.grows.grownOwn hKN7.out.hR hKN7.out.wR hg9;clear hRR hg9 c0 c1 c2 c3 c4 c5 c6 hKN7;go_wp2_with fail
    refine ret_row_tmp rfl rfl hT9 rfl rfl size_key rfl ?_
    have hnk : nk = 0 := by rw [HN.out.2.2.2, HK0.out]; rfl
    have hbk : IsBytes H2 a2.ka a2.kc [] := by have h := HK2.out.k; rw [HK0.out] at h; exact h
    exact ⟨⟨a2.ia, a2.ic, a2.xa, a2.xc, none, 0, a2.ka, a2.kc⟩, _, by rw [E.out.1, E.out.2, HTT.out, HN.out.1, HN.out.2.1, hnk]; rfl, hd9, by rw [E.out.2]; exact ⟨by rw [HTT.out]; exact HQ.out.1, HQ.out.2.1, HQ.out.2.2, HK2.out.kid, HK2.out.x, IsBytes.nil _, hbk⟩⟩
end Go.Proofs.YtmacemcajlgddaaGreatDoor
