/- Walks: a key with one field changed. -/
import Derived.Test.YtebcnkelbicbnaaDoorK36
import Derived.Test.YtebcnkelbicbnaaDoorK21
set_option linter.unusedVariables false
set_option linter.unusedSimpArgs false
namespace Go.Proofs.YtebcnkelbicbnaaDoor
open Go.RowKit

/-- A key with one field changed. -/
theorem made_zeros4 (n : Nat) : (madeCells (Value.int .u8 0).cells (n * 1)).toList = (List.replicate n (0 : UInt8)).map byteV := made_zeros2 n
set_option maxRecDepth 100000 in
set_option maxHeartbeats 25600000 in
theorem law11_spoilt {H : Snap} {q : Ky} {a : KAd} (hq : KeyA H q a) (hl : q.kid.length ≤ 1048576 ∧ q.x.length ≤ 1048576 ∧ q.d.length ≤ 1048576 ∧ q.k.length ≤ 1048576) (which by_ : Int) (hby : -9223372036854775808 ≤ by_ ∧ by_ ≤ 9223372036854775807) (w : World) (hH : Holds w H) :
    Calls Tryd.prog 6 #[.agg (keyQ q a), .int .i64 which, .int .i64 by_] w (SomeKey w H) := by
  have hB1 := (Blk.new w 24 (keyQ q a)).alloc (.cells zeroK 24)
  have hT := Blk.new (w.alloc (.cells (keyQ q a) 24)) 24 zeroK
  rw [size_alloc] at hT
  have hKN : KN w H (w.heap.size + 1) w.heap.size (keyQ q a) _ H := ⟨((Grows.refl hH).alloc (.cells (keyQ q a) 24)).alloc (.cells zeroK 24), hT, hB1, hH.none_of_ge (by omega), hH.none_of_ge (Nat.le_refl _), by omega, by omega, Nat.le_refl _⟩
  have HBY := Lib.hid hby
  have CP := Lib.hid (fun W hW => ref11_Copy hq hl W hW)
  have c0 := hKN.key.cell 0 rfl
  have c1 := hKN.key.cell 1 rfl
  have c2 := hKN.key.cell 2 rfl
  have c3 := hKN.key.cell 3 rfl
  have c4 := hKN.key.cell 4 rfl
  have c5 := hKN.key.cell 5 rfl
  have c6 := hKN.key.cell 6 rfl
  clear hB1 hT hH hby hl hq
  go_enter Tryd.func6, Tryd.ntmps6
  go_wp2_with fail
  refine (CP.out _ hKN.grows.holds).mono ?_
  rintro e w3 ⟨b, H3, rfl, hG3, hk3⟩
  replace hKN := hKN.grow hG3
  have HK := Lib.hid hk3
  clear CP hG3 hk3 c0 c1 c2 c3 c4 c5 c6
  go_wp2_with (with_reducible refine stop_store ?_)
  unfold Stopped
  refine wpList_store_item rfl _ _ _ rfl rfl _ _ rfl rfl _ _ hKN.key size_key rfl (one7 _ _ _ _ _ _ _ rfl rfl rfl rfl rfl rfl rfl) fun w4 hB4 hg4 => ?_
  replace hKN := hKN.set (kc' := keyQ q b) hB4 hg4
  clear hB4 hg4
  go_wp2_with fail
  refine (mk_Mod which 8 (by omega) (by omega) _).mono ?_
  rintro e w5 ⟨rfl, rfl⟩
  have hm := modP_bnd which 8 (by omega)
  obtain ⟨m, hme⟩ : ∃ m, modP which 8 = m := ⟨_, rfl⟩
  rw [hme] at hm ⊢
  clear hme
  rcases (by omega : m = 0 ∨ m = 1 ∨ m = 2 ∨ m = 3 ∨ m = 4 ∨ m = 5 ∨ m = 6 ∨ m = 7) with rfl | rfl | rfl | rfl | rfl | rfl | rfl | rfl
  · clear hm
    go_wp2_with (with_reducible refine stop_store ?_)
    unfold Stopped
    refine wpList_store_cell rfl _ _ _ rfl rfl w.heap.size 0 (.int .i64 by_) rfl rfl _ _ hKN.key (by kernel_rfl) (by simp) rfl fun wt hBt hgt => ?_
    replace hKN := hKN.set (kc' := keyC by_ q.crv q.alg b.ia q.kid.length b.ic b.xa q.x.length b.xc b.da q.d.length b.dc b.ka q.k.length b.kc) hBt hgt
    clear hBt hgt
    have c0 := hKN.key.cell 0 rfl
    have c1 := hKN.key.cell 1 rfl
    have c2 := hKN.key.cell 2 rfl
    have c3 := hKN.key.cell 3 rfl
    have c4 := hKN.key.cell 4 rfl
    have c5 := hKN.key.cell 5 rfl
    have c6 := hKN.key.cell 6 rfl
    have HKM := Lib.hid hKN
    have hRR := hKN.res
    clear hKN
    go_wp2_with (with_reducible refine stop_store ?_)
    unfold Stopped
    refine wpList_store_item rfl _ _ _ rfl rfl _ _ rfl rfl _ _ hRR size_key rfl (one7 _ _ _ _ _ _ _ rfl rfl rfl rfl rfl rfl rfl) fun wz hRz hgz => ?_
    have hdz := HKM.out.grows.grownOwn HKM.out.hR HKM.out.wR hgz
    clear HKM hRR hgz c0 c1 c2 c3 c4 c5 c6
    go_wp2_with fail
    refine ret_row rfl rfl hRz rfl rfl size_key rfl ?_
    exact ⟨⟨by_, q.crv, q.alg, q.kid, q.x, q.d, q.k⟩, b, _, rfl, hdz, ⟨HBY.out, HK.out.crv, HK.out.alg, HK.out.kid, HK.out.x, HK.out.d, HK.out.k⟩⟩
  · clear hm
    go_wp2_with fail
    refine (mk_Mod by_ 8 (by omega) (by omega) _).mono ?_
    rintro e w6 ⟨rfl, rfl⟩
    have hm8 := modP_bnd by_ 8 (by omega)
    obtain ⟨r8, hr8⟩ : ∃ r8, modP by_ 8 = r8 := ⟨_, rfl⟩
    rw [hr8] at hm8 ⊢
    have HM8 := Lib.hid hm8
    clear hm8 hr8
    go_wp2_with (with_reducible refine stop_store ?_)
    unfold Stopped
    refine wpList_store_cell rfl _ _ _ rfl rfl w.heap.size 1 (.int .i64 r8) rfl rfl _ _ hKN.key (by kernel_rfl) (by simp) rfl fun wt hBt hgt => ?_
    replace hKN := hKN.set (kc' := keyC q.kty r8 q.alg b.ia q.kid.length b.ic b.xa q.x.length b.xc b.da q.d.length b.dc b.ka q.k.length b.kc) hBt hgt
    clear hBt hgt
    have c0 := hKN.key.cell 0 rfl
    have c1 := hKN.key.cell 1 rfl
    have c2 := hKN.key.cell 2 rfl
    have c3 := hKN.key.cell 3 rfl
    have c4 := hKN.key.cell 4 rfl
    have c5 := hKN.key.cell 5 rfl
    have c6 := hKN.key.cell 6 rfl
    have HKM := Lib.hid hKN
    have hRR := hKN.res
    clear hKN
    go_wp2_with (with_reducible refine stop_store ?_)
    unfold Stopped
    refine wpList_store_item rfl _ _ _ rfl rfl _ _ rfl rfl _ _ hRR size_key rfl (one7 _ _ _ _ _ _ _ rfl rfl rfl rfl rfl rfl rfl) fun wz hRz hgz => ?_
    have hdz := HKM.out.grows.grownOwn HKM.out.hR HKM.out.wR hgz
    clear HKM hRR hgz c0 c1 c2 c3 c4 c5 c6
    go_wp2_with fail
    refine ret_row rfl rfl hRz rfl rfl size_key rfl ?_
    exact ⟨⟨q.kty, r8, q.alg, q.kid, q.x, q.d, q.k⟩, b, _, rfl, hdz, ⟨HK.out.kty, (by have := HM8.out; dsimp only; omega), HK.out.alg, HK.out.kid, HK.out.x, HK.out.d, HK.out.k⟩⟩
  · clear hm
    go_wp2_with (with_reducible refine stop_store ?_)
    unfold Stopped
    refine wpList_store_cell rfl _ _ _ rfl rfl w.heap.size 2 (.int .i64 by_) rfl rfl _ _ hKN.key (by kernel_rfl) (by simp) rfl fun wt hBt hgt => ?_
    replace hKN := hKN.set (kc' := keyC q.kty q.crv by_ b.ia q.kid.length b.ic b.xa q.x.length b.xc b.da q.d.length b.dc b.ka q.k.length b.kc) hBt hgt
    clear hBt hgt
    have c0 := hKN.key.cell 0 rfl
    have c1 := hKN.key.cell 1 rfl
    have c2 := hKN.key.cell 2 rfl
    have c3 := hKN.key.cell 3 rfl
    have c4 := hKN.key.cell 4 rfl
    have c5 := hKN.key.cell 5 rfl
    have c6 := hKN.key.cell 6 rfl
    have HKM := Lib.hid hKN
    have hRR := hKN.res
    clear hKN
    go_wp2_with (with_reducible refine stop_store ?_)
    unfold Stopped
    refine wpList_store_item rfl _ _ _ rfl rfl _ _ rfl rfl _ _ hRR size_key rfl (one7 _ _ _ _ _ _ _ rfl rfl rfl rfl rfl rfl rfl) fun wz hRz hgz => ?_
    have hdz := HKM.out.grows.grownOwn HKM.out.hR HKM.out.wR hgz
    clear HKM hRR hgz c0 c1 c2 c3 c4 c5 c6
    go_wp2_with fail
    refine ret_row rfl rfl hRz rfl rfl size_key rfl ?_
    exact ⟨⟨q.kty, q.crv, by_, q.kid, q.x, q.d, q.k⟩, b, _, rfl, hdz, ⟨HK.out.kty, HK.out.crv, HBY.out, HK.out.kid, HK.out.x, HK.out.d, HK.out.k⟩⟩
  · clear hm
    go_wp2_with fail
    refine (mk_Mod by_ 2 (by omega) (by omega) _).mono ?_
    rintro e w6 ⟨rfl, rfl⟩
    have hm3 := modP_bnd by_ 2 (by omega)
    obtain ⟨r3, hr3⟩ : ∃ r3 : Nat, modP by_ 2 = (r3 : Int) := ⟨(modP by_ 2).toNat, by omega⟩
    rw [hr3] at hm3 ⊢
    have hr3b : r3 < 2 := by omega
    obtain ⟨n3, hn3⟩ : ∃ n3, n3 = 16 + r3 := ⟨_, rfl⟩
    have hw3 : IntKind.i64.wrap (16 + (r3 : Int)) = (n3 : Int) := by rw [IntWalk.i64_in _ (by omega)]; omega
    have HN3 := Lib.hid (show n3 ≤ 128 by omega)
    clear hm3 hr3 hn3 hr3b
    obtain ⟨i0, hi0, hz0, hz1, hz2⟩ := info_parts info_u8
    have HI := Lib.hid (And.intro hi0 (And.intro hz0 (And.intro hz1 hz2)))
    clear hi0 hz0 hz1 hz2
    go_wp2_with (at_make; refine stop_in ?_)
    unfold Stopped
    refine wpList_make_full _ rfl _ _ 22 rfl w4.heap.size 5 i0 _ 1 Tryd.underlying22 HI.out.1 HI.out.2.1 HI.out.2.2.1 _ _ _ _ n3 rfl rfl (by first | rfl | omega) (by first | rfl | omega) (by rw [HI.out.2.2.2]; have := HN3.out; omega) (by have := HN3.out; simp only [maxLen]; omega) (Nat.le_refl _) fun w7 hO7 hg7 => ?_
    have hf7 : Fresh w4 (List.replicate n3 0) (.slice (some ⟨w4.heap.size, 0, none⟩) n3 n3) w7 := by
      refine ⟨?_, grown_none hg7⟩
      rw [List.length_replicate, ← made_zeros4]
      exact hO7
    obtain ⟨H7, hG7, hb7, hjk⟩ := Fresh.snapB hKN.grows.holds hf7
    clear hjk hf7 hO7 hg7 HI hw3
    replace hKN := hKN.grow hG7
    replace HK := Lib.hid (HK.out.mono hG7.le)
    have HB7 := Lib.hid hb7
    clear hG7 hb7
    obtain ⟨g7, hg7⟩ : ∃ g7, w4.heap.size = g7 := ⟨_, rfl⟩
    rw [hg7] at HB7 ⊢
    clear hg7
    go_wp2_with (with_reducible refine stop_store ?_)
    unfold Stopped
    refine wpList_store_cell rfl _ _ _ rfl rfl w.heap.size 3 (.slice (some ⟨g7, 0, none⟩) n3 n3) rfl rfl _ _ hKN.key (by kernel_rfl) (by simp) rfl fun wt hBt hgt => ?_
    replace hKN := hKN.set (kc' := keyC q.kty q.crv q.alg (some ⟨g7, 0, none⟩) n3 n3 b.xa q.x.length b.xc b.da q.d.length b.dc b.ka q.k.length b.kc) hBt hgt
    clear hBt hgt
    have c0 := hKN.key.cell 0 rfl
    have c1 := hKN.key.cell 1 rfl
    have c2 := hKN.key.cell 2 rfl
    have c3 := hKN.key.cell 3 rfl
    have c4 := hKN.key.cell 4 rfl
    have c5 := hKN.key.cell 5 rfl
    have c6 := hKN.key.cell 6 rfl
    have HKM := Lib.hid hKN
    have hRR := hKN.res
    clear hKN
    go_wp2_with (with_reducible refine stop_store ?_)
    unfold Stopped
    refine wpList_store_item rfl _ _ _ rfl rfl _ _ rfl rfl _ _ hRR size_key rfl (one7 _ _ _ _ _ _ _ rfl rfl rfl rfl rfl rfl rfl) fun wz hRz hgz => ?_
    have hdz := HKM.out.grows.grownOwn HKM.out.hR HKM.out.wR hgz
    clear HKM hRR hgz c0 c1 c2 c3 c4 c5 c6
    go_wp2_with fail
    refine ret_row rfl rfl hRz rfl rfl size_key rfl ?_
    exact ⟨⟨q.kty, q.crv, q.alg, List.replicate n3 0, q.x, q.d, q.k⟩, ⟨some ⟨g7, 0, none⟩, n3, b.xa, b.xc, b.da, b.dc, b.ka, b.kc⟩, _, by simp only [keyQ, List.length_replicate], hdz, ⟨HK.out.kty, HK.out.crv, HK.out.alg, HB7.out, HK.out.x, HK.out.d, HK.out.k⟩⟩
  · clear hm
    go_wp2_with fail
    refine (mk_Mod by_ 3 (by omega) (by omega) _).mono ?_
    rintro e w6 ⟨rfl, rfl⟩
    have hm3 := modP_bnd by_ 3 (by omega)
    obtain ⟨r3, hr3⟩ : ∃ r3 : Nat, modP by_ 3 = (r3 : Int) := ⟨(modP by_ 3).toNat, by omega⟩
    rw [hr3] at hm3 ⊢
    have hr3b : r3 < 3 := by omega
    obtain ⟨n3, hn3⟩ : ∃ n3, n3 = 31 + r3 := ⟨_, rfl⟩
    have hw3 : IntKind.i64.wrap (31 + (r3 : Int)) = (n3 : Int) := by rw [IntWalk.i64_in _ (by omega)]; omega
    have HN3 := Lib.hid (show n3 ≤ 128 by omega)
    clear hm3 hr3 hn3 hr3b
    go_wp2_with fail
    refine (mk_Some by_ (n := n3) HN3.out _).mono ?_
    rintro e w7 ⟨A7, c7, l7, rfl, hl7, hf7⟩
    clear hw3
    obtain rfl : n3 = l7.length := hl7.symm
    obtain ⟨H7, hG7, hb7, hjk⟩ := Fresh.snapB hKN.grows.holds hf7
    clear hjk hl7 hf7
    replace hKN := hKN.grow hG7
    replace HK := Lib.hid (HK.out.mono hG7.le)
    have HB7 := Lib.hid hb7
    clear hG7 hb7
    go_wp2_with (with_reducible refine stop_store ?_)
    unfold Stopped
    refine wpList_store_cell rfl _ _ _ rfl rfl w.heap.size 4 (.slice A7 l7.length c7) rfl rfl _ _ hKN.key (by kernel_rfl) (by simp) rfl fun wt hBt hgt => ?_
    replace hKN := hKN.set (kc' := keyC q.kty q.crv q.alg b.ia q.kid.length b.ic A7 l7.length c7 b.da q.d.length b.dc b.ka q.k.length b.kc) hBt hgt
    clear hBt hgt
    have c0 := hKN.key.cell 0 rfl
    have c1 := hKN.key.cell 1 rfl
    have c2 := hKN.key.cell 2 rfl
    have c3 := hKN.key.cell 3 rfl
    have c4 := hKN.key.cell 4 rfl
    have c5 := hKN.key.cell 5 rfl
    have c6 := hKN.key.cell 6 rfl
    have HKM := Lib.hid hKN
    have hRR := hKN.res
    clear hKN
    go_wp2_with (with_reducible refine stop_store ?_)
    unfold Stopped
    refine wpList_store_item rfl _ _ _ rfl rfl _ _ rfl rfl _ _ hRR size_key rfl (one7 _ _ _ _ _ _ _ rfl rfl rfl rfl rfl rfl rfl) fun wz hRz hgz => ?_
    have hdz := HKM.out.grows.grownOwn HKM.out.hR HKM.out.wR hgz
    clear HKM hRR hgz c0 c1 c2 c3 c4 c5 c6
    go_wp2_with fail
    refine ret_row rfl rfl hRz rfl rfl size_key rfl ?_
    exact ⟨⟨q.kty, q.crv, q.alg, q.kid, l7, q.d, q.k⟩, ⟨b.ia, b.ic, A7, c7, b.da, b.dc, b.ka, b.kc⟩, _, rfl, hdz, ⟨HK.out.kty, HK.out.crv, HK.out.alg, HK.out.kid, HB7.out, HK.out.d, HK.out.k⟩⟩
  · clear hm
    go_wp2_with fail
    refine (mk_Mod by_ 3 (by omega) (by omega) _).mono ?_
    rintro e w6 ⟨rfl, rfl⟩
    have hm3 := modP_bnd by_ 3 (by omega)
    obtain ⟨r3, hr3⟩ : ∃ r3 : Nat, modP by_ 3 = (r3 : Int) := ⟨(modP by_ 3).toNat, by omega⟩
    rw [hr3] at hm3 ⊢
    have hr3b : r3 < 3 := by omega
    obtain ⟨n3, hn3⟩ : ∃ n3, n3 = 31 + r3 := ⟨_, rfl⟩
    have hw3 : IntKind.i64.wrap (31 + (r3 : Int)) = (n3 : Int) := by rw [IntWalk.i64_in _ (by omega)]; omega
    have HN3 := Lib.hid (show n3 ≤ 128 by omega)
    clear hm3 hr3 hn3 hr3b
    go_wp2_with fail
    refine (mk_Some by_ (n := n3) HN3.out _).mono ?_
    rintro e w7 ⟨A7, c7, l7, rfl, hl7, hf7⟩
    clear hw3
    obtain rfl : n3 = l7.length := hl7.symm
    obtain ⟨H7, hG7, hb7, hjk⟩ := Fresh.snapB hKN.grows.holds hf7
    clear hjk hl7 hf7
    replace hKN := hKN.grow hG7
    replace HK := Lib.hid (HK.out.mono hG7.le)
    have HB7 := Lib.hid hb7
    clear hG7 hb7
    go_wp2_with (with_reducible refine stop_store ?_)
    unfold Stopped
    refine wpList_store_cell rfl _ _ _ rfl rfl w.heap.size 5 (.slice A7 l7.length c7) rfl rfl _ _ hKN.key (by kernel_rfl) (by simp) rfl fun wt hBt hgt => ?_
    replace hKN := hKN.set (kc' := keyC q.kty q.crv q.alg b.ia q.kid.length b.ic b.xa q.x.length b.xc A7 l7.length c7 b.ka q.k.length b.kc) hBt hgt
    clear hBt hgt
    have c0 := hKN.key.cell 0 rfl
    have c1 := hKN.key.cell 1 rfl
    have c2 := hKN.key.cell 2 rfl
    have c3 := hKN.key.cell 3 rfl
    have c4 := hKN.key.cell 4 rfl
    have c5 := hKN.key.cell 5 rfl
    have c6 := hKN.key.cell 6 rfl
    have HKM := Lib.hid hKN
    have hRR := hKN.res
    clear hKN
    go_wp2_with (with_reducible refine stop_store ?_)
    unfold Stopped
    refine wpList_store_item rfl _ _ _ rfl rfl _ _ rfl rfl _ _ hRR size_key rfl (one7 _ _ _ _ _ _ _ rfl rfl rfl rfl rfl rfl rfl) fun wz hRz hgz => ?_
    have hdz := HKM.out.grows.grownOwn HKM.out.hR HKM.out.wR hgz
    clear HKM hRR hgz c0 c1 c2 c3 c4 c5 c6
    go_wp2_with fail
    refine ret_row rfl rfl hRz rfl rfl size_key rfl ?_
    exact ⟨⟨q.kty, q.crv, q.alg, q.kid, q.x, l7, q.k⟩, ⟨b.ia, b.ic, b.xa, b.xc, A7, c7, b.ka, b.kc⟩, _, rfl, hdz, ⟨HK.out.kty, HK.out.crv, HK.out.alg, HK.out.kid, HK.out.x, HB7.out, HK.out.k⟩⟩
  · clear hm
    go_wp2_with fail
    refine (mk_Mod by_ 3 (by omega) (by omega) _).mono ?_
    rintro e w6 ⟨rfl, rfl⟩
    have hm3 := modP_bnd by_ 3 (by omega)
    obtain ⟨r3, hr3⟩ : ∃ r3 : Nat, modP by_ 3 = (r3 : Int) := ⟨(modP by_ 3).toNat, by omega⟩
    rw [hr3] at hm3 ⊢
    have hr3b : r3 < 3 := by omega
    obtain ⟨n3, hn3⟩ : ∃ n3, n3 = 63 + r3 := ⟨_, rfl⟩
    have hw3 : IntKind.i64.wrap (63 + (r3 : Int)) = (n3 : Int) := by rw [IntWalk.i64_in _ (by omega)]; omega
    have HN3 := Lib.hid (show n3 ≤ 128 by omega)
    clear hm3 hr3 hn3 hr3b
    go_wp2_with fail
    refine (mk_Some by_ (n := n3) HN3.out _).mono ?_
    rintro e w7 ⟨A7, c7, l7, rfl, hl7, hf7⟩
    clear hw3
    obtain rfl : n3 = l7.length := hl7.symm
    obtain ⟨H7, hG7, hb7, hjk⟩ := Fresh.snapB hKN.grows.holds hf7
    clear hjk hl7 hf7
    replace hKN := hKN.grow hG7
    replace HK := Lib.hid (HK.out.mono hG7.le)
    have HB7 := Lib.hid hb7
    clear hG7 hb7
    go_wp2_with (with_reducible refine stop_store ?_)
    unfold Stopped
    refine wpList_store_cell rfl _ _ _ rfl rfl w.heap.size 6 (.slice A7 l7.length c7) rfl rfl _ _ hKN.key (by kernel_rfl) (by simp) rfl fun wt hBt hgt => ?_
    replace hKN := hKN.set (kc' := keyC q.kty q.crv q.alg b.ia q.kid.length b.ic b.xa q.x.length b.xc b.da q.d.length b.dc A7 l7.length c7) hBt hgt
    clear hBt hgt
    have c0 := hKN.key.cell 0 rfl
    have c1 := hKN.key.cell 1 rfl
    have c2 := hKN.key.cell 2 rfl
    have c3 := hKN.key.cell 3 rfl
    have c4 := hKN.key.cell 4 rfl
    have c5 := hKN.key.cell 5 rfl
    have c6 := hKN.key.cell 6 rfl
    have HKM := Lib.hid hKN
    have hRR := hKN.res
    clear hKN
    go_wp2_with (with_reducible refine stop_store ?_)
    unfold Stopped
    refine wpList_store_item rfl _ _ _ rfl rfl _ _ rfl rfl _ _ hRR size_key rfl (one7 _ _ _ _ _ _ _ rfl rfl rfl rfl rfl rfl rfl) fun wz hRz hgz => ?_
    have hdz := HKM.out.grows.grownOwn HKM.out.hR HKM.out.wR hgz
    clear HKM hRR hgz c0 c1 c2 c3 c4 c5 c6
    go_wp2_with fail
    refine ret_row rfl rfl hRz rfl rfl size_key rfl ?_
    exact ⟨⟨q.kty, q.crv, q.alg, q.kid, q.x, q.d, l7⟩, ⟨b.ia, b.ic, b.xa, b.xc, b.da, b.dc, A7, c7⟩, _, rfl, hdz, ⟨HK.out.kty, HK.out.crv, HK.out.alg, HK.out.kid, HK.out.x, HK.out.d, HB7.out⟩⟩
  · clear hm
    go_wp2_with (with_reducible refine stop_store ?_)
    unfold Stopped
    refine wpList_store_cell rfl _ _ _ rfl rfl w.heap.size 6 (.slice none 0 0) rfl rfl _ _ hKN.key (by kernel_rfl) (by simp) rfl fun wt hBt hgt => ?_
    replace hKN := hKN.set (kc' := keyC q.kty q.crv q.alg b.ia q.kid.length b.ic b.xa q.x.length b.xc b.da q.d.length b.dc none 0 0) hBt hgt
    clear hBt hgt
    have c0 := hKN.key.cell 0 rfl
    have c1 := hKN.key.cell 1 rfl
    have c2 := hKN.key.cell 2 rfl
    have c3 := hKN.key.cell 3 rfl
    have c4 := hKN.key.cell 4 rfl
    have c5 := hKN.key.cell 5 rfl
    have c6 := hKN.key.cell 6 rfl
    have HKM := Lib.hid hKN
    have hRR := hKN.res
    clear hKN
    go_wp2_with (with_reducible refine stop_store ?_)
    unfold Stopped
    refine wpList_store_item rfl _ _ _ rfl rfl _ _ rfl rfl _ _ hRR size_key rfl (one7 _ _ _ _ _ _ _ rfl rfl rfl rfl rfl rfl rfl) fun wz hRz hgz => ?_
    have hdz := HKM.out.grows.grownOwn HKM.out.hR HKM.out.wR hgz
    clear HKM hRR hgz c0 c1 c2 c3 c4 c5 c6
    go_wp2_with fail
    refine ret_row rfl rfl hRz rfl rfl size_key rfl ?_
    exact ⟨⟨q.kty, q.crv, q.alg, q.kid, q.x, q.d, []⟩, ⟨b.ia, b.ic, b.xa, b.xc, b.da, b.dc, none, 0⟩, _, rfl, hdz, ⟨HK.out.kty, HK.out.crv, HK.out.alg, HK.out.kid, HK.out.x, HK.out.d, IsBytes.nil _⟩⟩
end Go.Proofs.YtebcnkelbicbnaaDoor
