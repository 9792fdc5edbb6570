/- squeezed. Walks: a key with one field change -/
import Derived.Test.YtmacemcajlgddaaGreatDoorK32
import Derived.Test.YtmacemcajlgddaaGreatDoorK29
import Derived.Test.YtmacemcajlgddaaGreatDoorK31
import Derived.Test.YtmacemcajlgddaaGreatDoorK17
import Derived.Test.YtmacemcajlgddaaGreatDoorK23
import Derived.Test.YtmacemcajlgddaaGreatDoorK04
import Derived.Test.YtmacemcajlgddaaGreatDoorK24
import Derived.Test.YtmacemcajlgddaaGreatDoorK06
import Derived.Test.YtmacemcajlgddaaGreatDoorK20
import Derived.Test.YtmacemcajlgddaaGreatDoorK01
import Derived.Test.YtmacemcajlgddaaGreatDoorK00
import Derived.ChangeKeysEq
set_option linter.unusedVariables false
set_option linter.unusedSimpArgs false
set_option maxRecDepth 100000
set_option maxHeartbeats 25600000
namespace Go.Proofs.YtmacemcajlgddaaGreatDoor
open Go.RowKit
theorem made_zeros4 (n : Nat) : (madeCells (Value.int .u8 0).cells (n * 1)).toList = (List.replicate n (0 : UInt8)).map byteV := made_zeros2 n
theorem law11_spoilt {H : Snap} {q : Ky} {a : KAd} (hq : KeyA H q a) (hl : q.kid.length ≤ 1048576 ∧ q.x.length ≤ 1048576 ∧ q.d.length ≤ 1048576 ∧ q.k.length ≤ 1048576) (which by_ : Int) (hby : -9223372036854775808 ≤ by_ ∧ by_ ≤ 9223372036854775807) (w : World) (hH : Holds w H) :
  Calls Tryz.prog 7 #[.agg (keyQ q a), .int .i64 which, .int .i64 by_] w (SomeKey w H) := by
 have hB1 := (Blk.new w 24 (keyQ q a)).alloc (.cells zeroK 24);have hT := Blk.new (w.alloc (.cells (keyQ q a) 24)) 24 zeroK;rw [size_alloc] at hT;have hKN : KN w H (w.heap.size + 1) w.heap.size (keyQ q a) _ H := ⟨((Grows.refl hH).alloc (.cells (keyQ q a) 24)).alloc (.cells zeroK 24), hT, hB1, hH.none_of_ge (by omega), hH.none_of_ge (Nat.le_refl _), by omega, by omega, Nat.le_refl _⟩
 have HBY := Hh hby;have CP := Hh (fun W hW => ref11_Copy hq hl W hW);have c0 := hKN.key.cell 0 rfl;have c1 := hKN.key.cell 1 rfl;have c2 := hKN.key.cell 2 rfl;have c3 := hKN.key.cell 3 rfl;have c4 := hKN.key.cell 4 rfl;have c5 := hKN.key.cell 5 rfl;have c6 := hKN.key.cell 6 rfl;clear hB1 hT hH hby hl hq;go_enter Tryz.func7, Tryz.ntmps7
 go_wp2_with fail
 refine (CP.out _ hKN.grows.holds).mono ?_
 rintro e w3 ⟨b, H3, rfl, hG3, hk3⟩
 replace hKN := hKN.grow hG3;have HK := Hh hk3;clear CP hG3 hk3 c0 c1 c2 c3 c4 c5 c6;go_wp2_with (with_reducible refine stop_store ?_)
 refine wpList_store_item rfl _ _ _ rfl rfl _ _ rfl rfl _ _ hKN.key size_key rfl (one7 _ _ _ _ _ _ _ rfl rfl rfl rfl rfl rfl rfl) fun w4 hB4 hg4 => ?_
 replace hKN := hKN.set (kc' := keyQ q b) hB4 hg4;clear hB4 hg4;go_wp2_with fail
 refine (mk_Mod which 8 (by omega) (by omega) _).mono ?_
 rintro e w5 ⟨rfl, rfl⟩
 have hm := modP_bnd which 8 (by omega);obtain ⟨m, hme⟩ : ∃ m, modP which 8 = m := ⟨_, rfl⟩
 rw [hme] at hm ⊢;clear hme
 rcases (by omega : m = 0 ∨ m = 1 ∨ m = 2 ∨ m = 3 ∨ m = 4 ∨ m = 5 ∨ m = 6 ∨ m = 7) with rfl | rfl | rfl | rfl | rfl | rfl | rfl | rfl
 ·clear hm;go_wp2_with (with_reducible refine stop_store ?_)
  refine wpList_store_cell rfl _ _ _ rfl rfl w.heap.size 0 (.int .i64 by_) rfl rfl _ _ hKN.key (by kernel_rfl) (by simp) rfl fun wt hBt hgt => ?_
  replace hKN := hKN.set (kc' := keyC by_ q.crv q.alg b.ia q.kid.length b.ic b.xa q.x.length b.xc b.da q.d.length b.dc b.ka q.k.length b.kc) hBt hgt;clear hBt hgt;have c0 := hKN.key.cell 0 rfl;have c1 := hKN.key.cell 1 rfl;have c2 := hKN.key.cell 2 rfl;have c3 := hKN.key.cell 3 rfl;have c4 := hKN.key.cell 4 rfl;have c5 := hKN.key.cell 5 rfl;have c6 := hKN.key.cell 6 rfl;have HKM := Hh hKN;have hRR := hKN.res;clear hKN;go_wp2_with (with_reducible refine stop_store ?_)
  refine wpList_store_item rfl _ _ _ rfl rfl _ _ rfl rfl _ _ hRR size_key rfl (one7 _ _ _ _ _ _ _ rfl rfl rfl rfl rfl rfl rfl) fun wz hRz hgz => ?_
  have hdz := HKM.out.grows.grownOwn HKM.out.hR HKM.out.wR hgz;clear HKM hRR hgz c0 c1 c2 c3 c4 c5 c6;go_wp2_with fail
  refine ret_row rfl rfl hRz rfl rfl size_key rfl ?_
  exact ⟨⟨by_, q.crv, q.alg, q.kid, q.x, q.d, q.k⟩, b, _, rfl, hdz, ⟨HBY.out, HK.out.crv, HK.out.alg, HK.out.kid, HK.out.x, HK.out.d, HK.out.k⟩⟩
 ·clear hm;go_wp2_with fail
  refine (mk_Mod by_ 8 (by omega) (by omega) _).mono ?_
  rintro e w6 ⟨rfl, rfl⟩
  have hm8 := modP_bnd by_ 8 (by omega);obtain ⟨r8, hr8⟩ : ∃ r8, modP by_ 8 = r8 := ⟨_, rfl⟩
  rw [hr8] at hm8 ⊢;have HM8 := Hh hm8;clear hm8 hr8;go_wp2_with (with_reducible refine stop_store ?_)
  refine wpList_store_cell rfl _ _ _ rfl rfl w.heap.size 1 (.int .i64 r8) rfl rfl _ _ hKN.key (by kernel_rfl) (by simp) rfl fun wt hBt hgt => ?_
  replace hKN := hKN.set (kc' := keyC q.kty r8 q.alg b.ia q.kid.length b.ic b.xa q.x.length b.xc b.da q.d.length b.dc b.ka q.k.length b.kc) hBt hgt;clear hBt hgt;have c0 := hKN.key.cell 0 rfl;have c1 := hKN.key.cell 1 rfl;have c2 := hKN.key.cell 2 rfl;have c3 := hKN.key.cell 3 rfl;have c4 := hKN.key.cell 4 rfl;have c5 := hKN.key.cell 5 rfl;have c6 := hKN.key.cell 6 rfl;have HKM := Hh hKN;have hRR := hKN.res;clear hKN;go_wp2_with (with_reducible refine stop_store ?_)
  refine wpList_store_item rfl _ _ _ rfl rfl _ _ rfl rfl _ _ hRR size_key rfl (one7 _ _ _ _ _ _ _ rfl rfl rfl rfl rfl rfl rfl) fun wz hRz hgz => ?_
  have hdz := HKM.out.grows.grownOwn HKM.out.hR HKM.out.wR hgz;clear HKM hRR hgz c0 c1 c2 c3 c4 c5 c6;go_wp2_with fail
  refine ret_row rfl rfl hRz rfl rfl size_key rfl ?_
  exact ⟨⟨q.kty, r8, q.alg, q.kid, q.x, q.d, q.k⟩, b, _, rfl, hdz, ⟨HK.out.kty, (by have := HM8.out; dsimp only; omega), HK.out.alg, HK.out.kid, HK.out.x, HK.out.d, HK.out.k⟩⟩
 ·clear hm;go_wp2_with (with_reducible refine stop_store ?_)
  refine wpList_store_cell rfl _ _ _ rfl rfl w.heap.size 2 (.int .i64 by_) rfl rfl _ _ hKN.key (by kernel_rfl) (by simp) rfl fun wt hBt hgt => ?_
  replace hKN := hKN.set (kc' := keyC q.kty q.crv by_ b.ia q.kid.length b.ic b.xa q.x.length b.xc b.da q.d.length b.dc b.ka q.k.length b.kc) hBt hgt;clear hBt hgt;have c0 := hKN.key.cell 0 rfl;have c1 := hKN.key.cell 1 rfl;have c2 := hKN.key.cell 2 rfl;have c3 := hKN.key.cell 3 rfl;have c4 := hKN.key.cell 4 rfl;have c5 := hKN.key.cell 5 rfl;have c6 := hKN.key.cell 6 rfl;have HKM := Hh hKN;have hRR := hKN.res;clear hKN;go_wp2_with (with_reducible refine stop_store ?_)
  refine wpList_store_item rfl _ _ _ rfl rfl _ _ rfl rfl _ _ hRR size_key rfl (one7 _ _ _ _ _ _ _ rfl rfl rfl rfl rfl rfl rfl) fun wz hRz hgz => ?_
  have hdz := HKM.out.grows.grownOwn HKM.out.hR HKM.out.wR hgz;clear HKM hRR hgz c0 c1 c2 c3 c4 c5 c6;go_wp2_with fail
  refine ret_row rfl rfl hRz rfl rfl size_key rfl ?_
  exact ⟨⟨q.kty, q.crv, by_, q.kid, q.x, q.d, q.k⟩, b, _, rfl, hdz, ⟨HK.out.kty, HK.out.crv, HBY.out, HK.out.kid, HK.out.x, HK.out.d, HK.out.k⟩⟩
 ·clear hm;go_wp2_with fail
  refine (mk_Mod by_ 2 (by omega) (by omega) _).mono ?_
  rintro e w6 ⟨rfl, rfl⟩
  have hm3 := modP_bnd by_ 2 (by omega);obtain ⟨r3, hr3⟩ : ∃ r3 : Nat, modP by_ 2 = (r3 : Int) := ⟨(modP by_ 2).toNat, by omega⟩
  rw [hr3] at hm3 ⊢;have hr3b : r3 < 2 := by omega
  obtain ⟨n3, hn3⟩ : ∃ n3, n3 = 16 + r3 := ⟨_, rfl⟩
  have hw3 : IntKind.i64.wrap (16 + (r3 : Int)) = (n3 : Int) := by rw [IntWalk.i64_in _ (by omega)]; omega
  have HN3 := Hh (show n3 ≤ 128 by omega);clear hm3 hr3 hn3 hr3b;obtain ⟨i0, hi0, hz0, hz1, hz2⟩ := info_parts info_u8;have HI := Hh (And.intro hi0 (And.intro hz0 (And.intro hz1 hz2)));clear hi0 hz0 hz1 hz2;go_wp2_with (at_make; refine stop_in ?_)
  refine wpList_make_full _ rfl _ _ 22 rfl w4.heap.size 5 i0 _ 1 Tryz.underlying22 HI.out.1 HI.out.2.1 HI.out.2.2.1 _ _ _ _ n3 rfl rfl (by first | rfl | omega) (by first | rfl | omega) (by rw [HI.out.2.2.2]; have := HN3.out; omega) (by have := HN3.out; simp only [maxLen]; omega) (Nat.le_refl _) fun w7 hO7 hg7 => ?_
  have hf7 : Fresh w4 (List.replicate n3 0) (.slice (some ⟨w4.heap.size, 0, none⟩) n3 n3) w7 := by
   refine ⟨?_, grown_none hg7⟩
   rw [List.length_replicate, ← made_zeros4]
   exact hO7
  obtain ⟨H7, hG7, hb7, hjk⟩ := Fresh.snapB hKN.grows.holds hf7;clear hjk hf7 hO7 hg7 HI hw3;replace hKN := hKN.grow hG7;replace HK := Hh (HK.out.mono hG7.le);have HB7 := Hh hb7;clear hG7 hb7;obtain ⟨g7, hg7⟩ : ∃ g7, w4.heap.size = g7 := ⟨_, rfl⟩
  rw [hg7] at HB7 ⊢;clear hg7;go_wp2_with (with_reducible refine stop_store ?_)
  refine wpList_store_cell rfl _ _ _ rfl rfl w.heap.size 3 (.slice (some ⟨g7, 0, none⟩) n3 n3) rfl rfl _ _ hKN.key (by kernel_rfl) (by simp) rfl fun wt hBt hgt => ?_
  replace hKN := hKN.set (kc' := keyC q.kty q.crv q.alg (some ⟨g7, 0, none⟩) n3 n3 b.xa q.x.length b.xc b.da q.d.length b.dc b.ka q.k.length b.kc) hBt hgt;clear hBt hgt;have c0 := hKN.key.cell 0 rfl;have c1 := hKN.key.cell 1 rfl;have c2 := hKN.key.cell 2 rfl;have c3 := hKN.key.cell 3 rfl;have c4 := hKN.key.cell 4 rfl;have c5 := hKN.key.cell 5 rfl;have c6 := hKN.key.cell 6 rfl;have HKM := Hh hKN;have hRR := hKN.res;clear hKN;go_wp2_with (with_reducible refine stop_store ?_)
  refine wpList_store_item rfl _ _ _ rfl rfl _ _ rfl rfl _ _ hRR size_key rfl (one7 _ _ _ _ _ _ _ rfl rfl rfl rfl rfl rfl rfl) fun wz hRz hgz => ?_
  have hdz := HKM.out.grows.grownOwn HKM.out.hR HKM.out.wR hgz;clear HKM hRR hgz c0 c1 c2 c3 c4 c5 c6;go_wp2_with fail
  refine ret_row rfl rfl hRz rfl rfl size_key rfl ?_
  exact ⟨⟨q.kty, q.crv, q.alg, List.replicate n3 0, q.x, q.d, q.k⟩, ⟨some ⟨g7, 0, none⟩, n3, b.xa, b.xc, b.da, b.dc, b.ka, b.kc⟩, _, by simp only [keyQ, List.length_replicate], hdz, ⟨HK.out.kty, HK.out.crv, HK.out.alg, HB7.out, HK.out.x, HK.out.d, HK.out.k⟩⟩
 ·clear hm;go_wp2_with fail
  refine (mk_Mod by_ 3 (by omega) (by omega) _).mono ?_
  rintro e w6 ⟨rfl, rfl⟩
  have hm3 := modP_bnd by_ 3 (by omega);obtain ⟨r3, hr3⟩ : ∃ r3 : Nat, modP by_ 3 = (r3 : Int) := ⟨(modP by_ 3).toNat, by omega⟩
  rw [hr3] at hm3 ⊢;have hr3b : r3 < 3 := by omega
  obtain ⟨n3, hn3⟩ : ∃ n3, n3 = 31 + r3 := ⟨_, rfl⟩
  have hw3 : IntKind.i64.wrap (31 + (r3 : Int)) = (n3 : Int) := by rw [IntWalk.i64_in _ (by omega)]; omega
  have HN3 := Hh (show n3 ≤ 128 by omega);clear hm3 hr3 hn3 hr3b;go_wp2_with fail
  refine (mk_Some by_ (n := n3) HN3.out _).mono ?_
  rintro e w7 ⟨A7, c7, l7, rfl, hl7, hf7⟩
  clear hw3;obtain rfl : n3 = l7.length := hl7.symm;obtain ⟨H7, hG7, hb7, hjk⟩ := Fresh.snapB hKN.grows.holds hf7;clear hjk hl7 hf7;replace hKN := hKN.grow hG7;replace HK := Hh (HK.out.mono hG7.le);have HB7 := Hh hb7;clear hG7 hb7;go_wp2_with (with_reducible refine stop_store ?_)
  refine wpList_store_cell rfl _ _ _ rfl rfl w.heap.size 4 (.slice A7 l7.length c7) rfl rfl _ _ hKN.key (by kernel_rfl) (by simp) rfl fun wt hBt hgt => ?_
  replace hKN := hKN.set (kc' := keyC q.kty q.crv q.alg b.ia q.kid.length b.ic A7 l7.length c7 b.da q.d.length b.dc b.ka q.k.length b.kc) hBt hgt;clear hBt hgt;have c0 := hKN.key.cell 0 rfl;have c1 := hKN.key.cell 1 rfl;have c2 := hKN.key.cell 2 rfl;have c3 := hKN.key.cell 3 rfl;have c4 := hKN.key.cell 4 rfl;have c5 := hKN.key.cell 5 rfl;have c6 := hKN.key.cell 6 rfl;have HKM := Hh hKN;have hRR := hKN.res;clear hKN;go_wp2_with (with_reducible refine stop_store ?_)
  refine wpList_store_item rfl _ _ _ rfl rfl _ _ rfl rfl _ _ hRR size_key rfl (one7 _ _ _ _ _ _ _ rfl rfl rfl rfl rfl rfl rfl) fun wz hRz hgz => ?_
  have hdz := HKM.out.grows.grownOwn HKM.out.hR HKM.out.wR hgz;clear HKM hRR hgz c0 c1 c2 c3 c4 c5 c6;go_wp2_with fail
  refine ret_row rfl rfl hRz rfl rfl size_key rfl ?_
  exact ⟨⟨q.kty, q.crv, q.alg, q.kid, l7, q.d, q.k⟩, ⟨b.ia, b.ic, A7, c7, b.da, b.dc, b.ka, b.kc⟩, _, rfl, hdz, ⟨HK.out.kty, HK.out.crv, HK.out.alg, HK.out.kid, HB7.out, HK.out.d, HK.out.k⟩⟩
 ·clear hm;go_wp2_with fail
  refine (mk_Mod by_ 3 (by omega) (by omega) _).mono ?_
  rintro e w6 ⟨rfl, rfl⟩
  have hm3 := modP_bnd by_ 3 (by omega);obtain ⟨r3, hr3⟩ : ∃ r3 : Nat, modP by_ 3 = (r3 : Int) := ⟨(modP by_ 3).toNat, by omega⟩
  rw [hr3] at hm3 ⊢;have hr3b : r3 < 3 := by omega
  obtain ⟨n3, hn3⟩ : ∃ n3, n3 = 31 + r3 := ⟨_, rfl⟩
  have hw3 : IntKind.i64.wrap (31 + (r3 : Int)) = (n3 : Int) := by rw [IntWalk.i64_in _ (by omega)]; omega
  have HN3 := Hh (show n3 ≤ 128 by omega);clear hm3 hr3 hn3 hr3b;go_wp2_with fail
  refine (mk_Some by_ (n := n3) HN3.out _).mono ?_
  rintro e w7 ⟨A7, c7, l7, rfl, hl7, hf7⟩
  clear hw3;obtain rfl : n3 = l7.length := hl7.symm;obtain ⟨H7, hG7, hb7, hjk⟩ := Fresh.snapB hKN.grows.holds hf7;clear hjk hl7 hf7;replace hKN := hKN.grow hG7;replace HK := Hh (HK.out.mono hG7.le);have HB7 := Hh hb7;clear hG7 hb7;go_wp2_with (with_reducible refine stop_store ?_)
  refine wpList_store_cell rfl _ _ _ rfl rfl w.heap.size 5 (.slice A7 l7.length c7) rfl rfl _ _ hKN.key (by kernel_rfl) (by simp) rfl fun wt hBt hgt => ?_
  replace hKN := hKN.set (kc' := keyC q.kty q.crv q.alg b.ia q.kid.length b.ic b.xa q.x.length b.xc A7 l7.length c7 b.ka q.k.length b.kc) hBt hgt;clear hBt hgt;have c0 := hKN.key.cell 0 rfl;have c1 := hKN.key.cell 1 rfl;have c2 := hKN.key.cell 2 rfl;have c3 := hKN.key.cell 3 rfl;have c4 := hKN.key.cell 4 rfl;have c5 := hKN.key.cell 5 rfl;have c6 := hKN.key.cell 6 rfl;have HKM := Hh hKN;have hRR := hKN.res;clear hKN;go_wp2_with (with_reducible refine stop_store ?_)
  refine wpList_store_item rfl _ _ _ rfl rfl _ _ rfl rfl _ _ hRR size_key rfl (one7 _ _ _ _ _ _ _ rfl rfl rfl rfl rfl rfl rfl) fun wz hRz hgz => ?_
  have hdz := HKM.out.grows.grownOwn HKM.out.hR HKM.out.wR hgz;clear HKM hRR hgz c0 c1 c2 c3 c4 c5 c6;go_wp2_with fail
  refine ret_row rfl rfl hRz rfl rfl size_key rfl ?_
  exact ⟨⟨q.kty, q.crv, q.alg, q.kid, q.x, l7, q.k⟩, ⟨b.ia, b.ic, b.xa, b.xc, A7, c7, b.ka, b.kc⟩, _, rfl, hdz, ⟨HK.out.kty, HK.out.crv, HK.out.alg, HK.out.kid, HK.out.x, HB7.out, HK.out.k⟩⟩
 ·clear hm;go_wp2_with fail
  refine (mk_Mod by_ 3 (by omega) (by omega) _).mono ?_
  rintro e w6 ⟨rfl, rfl⟩
  have hm3 := modP_bnd by_ 3 (by omega);obtain ⟨r3, hr3⟩ : ∃ r3 : Nat, modP by_ 3 = (r3 : Int) := ⟨(modP by_ 3).toNat, by omega⟩
  rw [hr3] at hm3 ⊢;have hr3b : r3 < 3 := by omega
  obtain ⟨n3, hn3⟩ : ∃ n3, n3 = 63 + r3 := ⟨_, rfl⟩
  have hw3 : IntKind.i64.wrap (63 + (r3 : Int)) = (n3 : Int) := by rw [IntWalk.i64_in _ (by omega)]; omega
  have HN3 := Hh (show n3 ≤ 128 by omega);clear hm3 hr3 hn3 hr3b;go_wp2_with fail
  refine (mk_Some by_ (n := n3) HN3.out _).mono ?_
  rintro e w7 ⟨A7, c7, l7, rfl, hl7, hf7⟩
  clear hw3;obtain rfl : n3 = l7.length := hl7.symm;obtain ⟨H7, hG7, hb7, hjk⟩ := Fresh.snapB hKN.grows.holds hf7;clear hjk hl7 hf7;replace hKN := hKN.grow hG7;replace HK := Hh (HK.out.mono hG7.le);have HB7 := Hh hb7;clear hG7 hb7;go_wp2_with (with_reducible refine stop_store ?_)
  refine wpList_store_cell rfl _ _ _ rfl rfl w.heap.size 6 (.slice A7 l7.length c7) rfl rfl _ _ hKN.key (by kernel_rfl) (by simp) rfl fun wt hBt hgt => ?_
  replace hKN := hKN.set (kc' := keyC q.kty q.crv q.alg b.ia q.kid.length b.ic b.xa q.x.length b.xc b.da q.d.length b.dc A7 l7.length c7) hBt hgt;clear hBt hgt;have c0 := hKN.key.cell 0 rfl;have c1 := hKN.key.cell 1 rfl;have c2 := hKN.key.cell 2 rfl;have c3 := hKN.key.cell 3 rfl;have c4 := hKN.key.cell 4 rfl;have c5 := hKN.key.cell 5 rfl;have c6 := hKN.key.cell 6 rfl;have HKM := Hh hKN;have hRR := hKN.res;clear hKN;go_wp2_with (with_reducible refine stop_store ?_)
  refine wpList_store_item rfl _ _ _ rfl rfl _ _ rfl rfl _ _ hRR size_key rfl (one7 _ _ _ _ _ _ _ rfl rfl rfl rfl rfl rfl rfl) fun wz hRz hgz => ?_
  have hdz := HKM.out.grows.grownOwn HKM.out.hR HKM.out.wR hgz;clear HKM hRR hgz c0 c1 c2 c3 c4 c5 c6;go_wp2_with fail
  refine ret_row rfl rfl hRz rfl rfl size_key rfl ?_
  exact ⟨⟨q.kty, q.crv, q.alg, q.kid, q.x, q.d, l7⟩, ⟨b.ia, b.ic, b.xa, b.xc, b.da, b.dc, A7, c7⟩, _, rfl, hdz, ⟨HK.out.kty, HK.out.crv, HK.out.alg, HK.out.kid, HK.out.x, HK.out.d, HB7.out⟩⟩
 ·clear hm;go_wp2_with (with_reducible refine stop_store ?_)
  refine wpList_store_cell rfl _ _ _ rfl rfl w.heap.size 6 (.slice none 0 0) rfl rfl _ _ hKN.key (by kernel_rfl) (by simp) rfl fun wt hBt hgt => ?_
  replace hKN := hKN.set (kc' := keyC q.kty q.crv q.alg b.ia q.kid.length b.ic b.xa q.x.length b.xc b.da q.d.length b.dc none 0 0) hBt hgt;clear hBt hgt;have c0 := hKN.key.cell 0 rfl;have c1 := hKN.key.cell 1 rfl;have c2 := hKN.key.cell 2 rfl;have c3 := hKN.key.cell 3 rfl;have c4 := hKN.key.cell 4 rfl;have c5 := hKN.key.cell 5 rfl;have c6 := hKN.key.cell 6 rfl;have HKM := Hh hKN;have hRR := hKN.res;clear hKN;go_wp2_with (with_reducible refine stop_store ?_)
  refine wpList_store_item rfl _ _ _ rfl rfl _ _ rfl rfl _ _ hRR size_key rfl (one7 _ _ _ _ _ _ _ rfl rfl rfl rfl rfl rfl rfl) fun wz hRz hgz => ?_
  have hdz := HKM.out.grows.grownOwn HKM.out.hR HKM.out.wR hgz;clear HKM hRR hgz c0 c1 c2 c3 c4 c5 c6;go_wp2_with fail
  refine ret_row rfl rfl hRz rfl rfl size_key rfl ?_
  exact ⟨⟨q.kty, q.crv, q.alg, q.kid, q.x, q.d, []⟩, ⟨b.ia, b.ic, b.xa, b.xc, b.da, b.dc, none, 0⟩, _, rfl, hdz, ⟨HK.out.kty, HK.out.crv, HK.out.alg, HK.out.kid, HK.out.x, HK.out.d, IsBytes.nil _⟩⟩
def lieK : Lie Ky where
 k := 7
 pos := by omega
 E := fun H q c => ∃ a, c = (keyQ q a).toList ∧ KeyA H q a
 len := by rintro _ _ _ ⟨_, rfl, _⟩; rfl
 one := by rintro _ _ _ ⟨_, rfl, _⟩; simp [Value.oneCell']
 mono := by rintro H K x c hl ⟨a, e, h⟩; exact ⟨a, e, h.mono hl⟩
def byteAt (n s : Nat) : UInt8 := UInt8.ofNat (n / 2 ^ s)
def be64 (n : Nat) : List UInt8 := [byteAt n 56, byteAt n 48, byteAt n 40, byteAt n 32, byteAt n 24, byteAt n 16, byteAt n 8, byteAt n 0]
def padN (n : Nat) : Nat := (119 - n % 64) % 64
def lenP (n : Nat) : Nat := n * 8 % 18446744073709551616
def padP (l : List UInt8) : List UInt8 := l ++ [128] ++ List.replicate (padN l.length) 0 ++ be64 (lenP l.length)
theorem be64_len (n : Nat) : (be64 n).length = 8 := rfl
theorem padP_len (l : List UInt8) : (padP l).length = l.length + 9 + padN l.length ∧ (padP l).length % 64 = 0 := by
 have h : (padP l).length = l.length + 9 + padN l.length := by
  simp only [padP, List.length_append, List.length_replicate, be64_len, List.length_singleton]
  omega
 refine ⟨h, ?_⟩
 rw [h, padN]
 omega
theorem padN_lt (n : Nat) : padN n < 64 := Nat.mod_lt _ (by decide)
theorem padN_go {n z : Nat} (hz : z ≤ padN n) (h : ¬ (n + 1 + z + 8) % 64 = 0) : z < padN n := by
 unfold padN at *
 omega
theorem padN_stop {n z : Nat} (hz : z ≤ padN n) (h : (n + 1 + z + 8) % 64 = 0) : z = padN n := by
 unfold padN at *
 omega
def lenS : Value → Nat
 | .slice _ m _ => m
 | _ => 0
theorem byteAt_val (N s : Nat) (d : Int) (hd : d = ((2 ^ s : Nat) : Int)) : byteV (byteAt N s) = .int .u8 ((N : Int) / d % 256) := by
 subst hd;rw [byteV, byteAt, UInt8.toNat_ofNat'];rfl
def zerosP (l : List UInt8) (z : Nat) : List UInt8 := l ++ [128] ++ List.replicate z 0
theorem zerosP_succ (l : List UInt8) (z : Nat) : zerosP l z ++ [0] = zerosP l (z + 1) := by
 rw [zerosP, zerosP, List.replicate_succ', List.append_assoc]
theorem zerosP_len (l : List UInt8) (z : Nat) : (zerosP l z).length = l.length + 1 + z := by simp [zerosP]; omega
theorem take_be64 (N k : Nat) (h : k < 8) : (be64 N).take k ++ [(be64 N).getD k 0] = (be64 N).take (k + 1) := by
 obtain rfl | rfl | rfl | rfl | rfl | rfl | rfl | rfl : k = 0 ∨ k = 1 ∨ k = 2 ∨ k = 3 ∨ k = 4 ∨ k = 5 ∨ k = 6 ∨ k = 7 := by omega
 all_goals rfl
theorem sha_padded {A : Option Addr} {c : Nat} {l : List UInt8} {n : Nat} (hn : n = l.length) (hmax : l.length ≤ 1099511627) (w : World) (hS : Src w A (l.map byteV)) :
  Calls Tryz.prog 31 #[.slice A n c, .int .i64 64, .int .i64 8] w fun e w' => ∃ r, e = .returned r ∧ Fresh w (padP l) r w' := by
 obtain ⟨i0, hi0, hz0, hz1, hz2⟩ := info_parts info_u8;have HN := Hh (And.intro hn hmax);obtain ⟨n2, hn2⟩ : ∃ n2, n + 128 = n2 := ⟨_, rfl⟩
 have hw1 : IntKind.i64.wrap ((n : Int) + 128) = (n2 : Int) := by rw [← hn2, Int.natCast_add]; exact IntWalk.i64_in _ (by omega)
 have HN2 := Hh hn2;obtain ⟨N, hN⟩ : ∃ N, lenP l.length = N := ⟨_, rfl⟩
 have hw2 : IntKind.u64.wrap ((n : Int)) = (n : Int) := IntWalk.u64_in _ (by omega);have hw3 : IntKind.u64.wrap ((n : Int) * 8) = (N : Int) := by rw [← hN, lenP, IntKind.wrap_u64, hn]; omega
 have HNN := Hh hN;clear hn2 hn hmax hN;go_enter Tryz.func31, Tryz.ntmps31
 go_wp2_with (at_make; refine stop_in ?_)
 refine wpList_make_own w rfl _ _ 22 rfl w.heap.size 5 i0 _ 1 Tryz.underlying22 hi0 hz0 hz1 .i64 .i64 (n2 : Int) n2 rfl rfl rfl (by rw [hz2]; have := HN.out; have := HN2.out; omega) (by have := HN.out; have := HN2.out; simp only [maxLen]; omega) (Nat.le_refl _) fun w1 hO1 hg1 => ?_
 have hO : OwnB w1 w.heap.size (.slice (some ⟨w.heap.size, 0, none⟩) 0 n2) [] := hO1;have hb1 := grown_none hg1;have hS1 := hS.below hb1;clear hO1 hg1 hi0 hz0 hz1 hz2 hS hw1;go_wp2_with (at_builtin; refine stop_in ?_)
 refine wpList_app_bytes rfl (.tmp 15) (.tmp 16) rfl w.heap.size _ [] rfl hO A n c l rfl HN.out.1 hS1 (by have := HN.out.2; simp; omega) hb1.size fun v' w2 hO2 hg2 hat2 => ?_
 rw [List.nil_append] at hO2;have hb2 := below_of_grown hb1 hg2 (fun q hq => (hO.lt q hq).1);have hO3 := hO2.alloc (.cells #[.int .u8 128] 5);have hb3 := hb2.alloc hb2.size (.cells #[.int .u8 128] 5);clear hO hb1 hS1 hg2 hat2;go_wp2_with (at_builtin; refine stop_in ?_)
 refine wpList_app_bytes rfl (.tmp 17) (.tmp 18) rfl w.heap.size _ l rfl hO3 _ 1 _ [128] rfl rfl (Src.new _ _ _ _ rfl _ rfl) (by have := HN.out.2; simp; omega) hb3.size fun v3 w3 hO4 hg3 hat3 => ?_
 have hb4 := below_of_grown hb3 hg3 (fun q hq => (hO2.lt q hq).1);replace hO4 : OwnB w3 w.heap.size v3 (zerosP l 0) := by rw [zerosP]; simpa using hO4
 obtain ⟨A3, c3, rfl, _⟩ := hO4.form;rw [zerosP_len] at hO4 ⊢;clear hO2 hO3 hb2 hb3 hg3 hat3;go_wp2_with fail
 go_loopw [7] (fun v7 wr => ∃ (z m : Nat) (VA : Option Addr) (vc : Nat), v7 = .slice VA m vc ∧ Hid (m = l.length + 1 + z) ∧ Hid (z ≤ padN l.length) ∧ OwnB wr w.heap.size (.slice VA m vc) (zerosP l z) ∧ Below w.heap.size w wr) (fun v7 _ => l.length + 65 - lenS v7)
 case atStart => exact ⟨0, _, A3, c3, rfl, rfl, Nat.zero_le _, hO4, hb4⟩
 case round =>
  clear hO4 hb4;obtain ⟨z, m, VA, vc, rfl, HM, HZ, hO, hb⟩ := hrel;have HB := Hh (padN_lt l.length);obtain ⟨m8, hm8⟩ : ∃ m8, m + 8 = m8 := ⟨_, rfl⟩
  have hw4 : IntKind.i64.wrap ((m : Int) + 8) = (m8 : Int) := by rw [← hm8, Int.natCast_add]; exact IntWalk.i64_in _ (by have := HM.out; have := HZ.out; have := HB.out; have := HN.out; omega)
  have HM8 := Hh hm8;clear hm8;obtain ⟨r, hr⟩ : ∃ r, m8 % 64 = r := ⟨_, rfl⟩
  have hr1 : (m8 : Int).tmod 64 = (r : Int) := by rw [← hr]; exact (Int.ofNat_tmod m8 64).symm
  have hr2 : (m8 : Int) % 64 = (r : Int) := by rw [← hr]; omega
  have HR := Hh hr;clear hr
  by_cases h0 : r = 0
  ·subst h0;have HST : Hid (z = padN l.length) := padN_stop HZ.out (by have := HR.out; have := HM8.out; have := HM.out; omega);go_wp2_with fail
   go_loopw [7, 9] (fun v7 v9 wx => ∃ (k mm : Nat) (VB : Option Addr) (vb : Nat), v7 = .slice VB mm vb ∧ v9 = .int .i64 (56 - 8 * (k : Int)) ∧ k ≤ 8 ∧ Hid (mm = m + k) ∧ OwnB wx w.heap.size (.slice VB mm vb) (zerosP l z ++ (be64 N).take k) ∧ Below w.heap.size w wx) (fun v7 _ _ => m + 8 - lenS v7)
   case atStart => exact ⟨0, m, VA, vc, rfl, rfl, by omega, rfl, by simpa using hO, hb⟩
   case round =>
    clear hO hb;obtain ⟨k, mm, VB, vb, rfl, rfl, hk, HMM, hO, hb⟩ := hrel
    have HLL : Hid ((zerosP l z ++ (be64 N).take k).length ≤ 1099511627700) := by
     have := HM.out; have := HMM.out; have := HN.out; have := HZ.out; have := HB.out
     rw [Hid, List.length_append, zerosP_len, List.length_take, be64_len]
     omega
    have HT := Hh (fun h => take_be64 N k h)
    rcases (show k = 0 ∨ k = 1 ∨ k = 2 ∨ k = 3 ∨ k = 4 ∨ k = 5 ∨ k = 6 ∨ k = 7 ∨ k = 8 by omega) with rfl | rfl | rfl | rfl | rfl | rfl | rfl | rfl | rfl
    ·go_wp2_with (at_builtin; refine stop_in ?_)
     unfold Stopped
     have hO1 := hO.alloc (.cells #[.int .u8 ((N : Int) / 72057594037927936 % 256)] 5);have hb1 := hb.alloc hb.size (.cells #[.int .u8 ((N : Int) / 72057594037927936 % 256)] 5)
     refine wpList_app_bytes rfl (.tmp 40) (.tmp 46) rfl w.heap.size _ _ rfl hO1 _ 1 _ [byteAt N 56] rfl rfl (Src.new _ _ _ _ rfl _ (by simp only [List.map_cons, List.map_nil]; rw [byteAt_val N 56 72057594037927936 rfl])) (by have := HLL.out; simp only [List.length_singleton]; omega) hb1.size fun v' w5 hO5 hg5 hat5 => ?_
     have hb5 := below_of_grown hb1 hg5 (fun q hq => (hO.lt q hq).1);rw [List.append_assoc, show [byteAt N 56] = [(be64 N).getD 0 0] from rfl, HT.out (by omega)] at hO5;obtain ⟨A5, c5, rfl, _⟩ := hO5.form
     have HL5 : Hid ((zerosP l z ++ (be64 N).take (0 + 1)).length = m + 1) := by
      have := HM.out;rw [Hid, List.length_append, zerosP_len, List.length_take, be64_len]
      omega
     rw [HL5.out] at hO5 ⊢;clear hO hb hO1 hb1 hg5 hat5;go_wp2_with fail
     go_roundw
     case rel => exact ⟨1, m + 1, A5, c5, rfl, by go_num, by omega, rfl, hO5, hb5⟩
     case measure => have := HMM.out; simp only [lenS]; omega
    ·go_wp2_with (at_builtin; refine stop_in ?_)
     unfold Stopped
     have hO1 := hO.alloc (.cells #[.int .u8 ((N : Int) / 281474976710656 % 256)] 5);have hb1 := hb.alloc hb.size (.cells #[.int .u8 ((N : Int) / 281474976710656 % 256)] 5)
     refine wpList_app_bytes rfl (.tmp 40) (.tmp 46) rfl w.heap.size _ _ rfl hO1 _ 1 _ [byteAt N 48] rfl rfl (Src.new _ _ _ _ rfl _ (by simp only [List.map_cons, List.map_nil]; rw [byteAt_val N 48 281474976710656 rfl])) (by have := HLL.out; simp only [List.length_singleton]; omega) hb1.size fun v' w5 hO5 hg5 hat5 => ?_
     have hb5 := below_of_grown hb1 hg5 (fun q hq => (hO.lt q hq).1);rw [List.append_assoc, show [byteAt N 48] = [(be64 N).getD 1 0] from rfl, HT.out (by omega)] at hO5;obtain ⟨A5, c5, rfl, _⟩ := hO5.form
     have HL5 : Hid ((zerosP l z ++ (be64 N).take (1 + 1)).length = m + 2) := by
      have := HM.out;rw [Hid, List.length_append, zerosP_len, List.length_take, be64_len]
      omega
     rw [HL5.out] at hO5 ⊢;clear hO hb hO1 hb1 hg5 hat5;go_wp2_with fail
     go_roundw
     case rel => exact ⟨2, m + 2, A5, c5, rfl, by go_num, by omega, rfl, hO5, hb5⟩
     case measure => have := HMM.out; simp only [lenS]; omega
    ·go_wp2_with (at_builtin; refine stop_in ?_)
     unfold Stopped
     have hO1 := hO.alloc (.cells #[.int .u8 ((N : Int) / 1099511627776 % 256)] 5);have hb1 := hb.alloc hb.size (.cells #[.int .u8 ((N : Int) / 1099511627776 % 256)] 5)
     refine wpList_app_bytes rfl (.tmp 40) (.tmp 46) rfl w.heap.size _ _ rfl hO1 _ 1 _ [byteAt N 40] rfl rfl (Src.new _ _ _ _ rfl _ (by simp only [List.map_cons, List.map_nil]; rw [byteAt_val N 40 1099511627776 rfl])) (by have := HLL.out; simp only [List.length_singleton]; omega) hb1.size fun v' w5 hO5 hg5 hat5 => ?_
     have hb5 := below_of_grown hb1 hg5 (fun q hq => (hO.lt q hq).1);rw [List.append_assoc, show [byteAt N 40] = [(be64 N).getD 2 0] from rfl, HT.out (by omega)] at hO5;obtain ⟨A5, c5, rfl, _⟩ := hO5.form
     have HL5 : Hid ((zerosP l z ++ (be64 N).take (2 + 1)).length = m + 3) := by
      have := HM.out;rw [Hid, List.length_append, zerosP_len, List.length_take, be64_len]
      omega
     rw [HL5.out] at hO5 ⊢;clear hO hb hO1 hb1 hg5 hat5;go_wp2_with fail
     go_roundw
     case rel => exact ⟨3, m + 3, A5, c5, rfl, by go_num, by omega, rfl, hO5, hb5⟩
     case measure => have := HMM.out; simp only [lenS]; omega
    ·go_wp2_with (at_builtin; refine stop_in ?_)
     unfold Stopped
     have hO1 := hO.alloc (.cells #[.int .u8 ((N : Int) / 4294967296 % 256)] 5);have hb1 := hb.alloc hb.size (.cells #[.int .u8 ((N : Int) / 4294967296 % 256)] 5)
     refine wpList_app_bytes rfl (.tmp 40) (.tmp 46) rfl w.heap.size _ _ rfl hO1 _ 1 _ [byteAt N 32] rfl rfl (Src.new _ _ _ _ rfl _ (by simp only [List.map_cons, List.map_nil]; rw [byteAt_val N 32 4294967296 rfl])) (by have := HLL.out; simp only [List.length_singleton]; omega) hb1.size fun v' w5 hO5 hg5 hat5 => ?_
     have hb5 := below_of_grown hb1 hg5 (fun q hq => (hO.lt q hq).1);rw [List.append_assoc, show [byteAt N 32] = [(be64 N).getD 3 0] from rfl, HT.out (by omega)] at hO5;obtain ⟨A5, c5, rfl, _⟩ := hO5.form
     have HL5 : Hid ((zerosP l z ++ (be64 N).take (3 + 1)).length = m + 4) := by
      have := HM.out;rw [Hid, List.length_append, zerosP_len, List.length_take, be64_len]
      omega
     rw [HL5.out] at hO5 ⊢;clear hO hb hO1 hb1 hg5 hat5;go_wp2_with fail
     go_roundw
     case rel => exact ⟨4, m + 4, A5, c5, rfl, by go_num, by omega, rfl, hO5, hb5⟩
     case measure => have := HMM.out; simp only [lenS]; omega
    ·go_wp2_with (at_builtin; refine stop_in ?_)
     unfold Stopped
     have hO1 := hO.alloc (.cells #[.int .u8 ((N : Int) / 16777216 % 256)] 5);have hb1 := hb.alloc hb.size (.cells #[.int .u8 ((N : Int) / 16777216 % 256)] 5)
     refine wpList_app_bytes rfl (.tmp 40) (.tmp 46) rfl w.heap.size _ _ rfl hO1 _ 1 _ [byteAt N 24] rfl rfl (Src.new _ _ _ _ rfl _ (by simp only [List.map_cons, List.map_nil]; rw [byteAt_val N 24 16777216 rfl])) (by have := HLL.out; simp only [List.length_singleton]; omega) hb1.size fun v' w5 hO5 hg5 hat5 => ?_
     have hb5 := below_of_grown hb1 hg5 (fun q hq => (hO.lt q hq).1);rw [List.append_assoc, show [byteAt N 24] = [(be64 N).getD 4 0] from rfl, HT.out (by omega)] at hO5;obtain ⟨A5, c5, rfl, _⟩ := hO5.form
     have HL5 : Hid ((zerosP l z ++ (be64 N).take (4 + 1)).length = m + 5) := by
      have := HM.out;rw [Hid, List.length_append, zerosP_len, List.length_take, be64_len]
      omega
     rw [HL5.out] at hO5 ⊢;clear hO hb hO1 hb1 hg5 hat5;go_wp2_with fail
     go_roundw
     case rel => exact ⟨5, m + 5, A5, c5, rfl, by go_num, by omega, rfl, hO5, hb5⟩
     case measure => have := HMM.out; simp only [lenS]; omega
    ·go_wp2_with (at_builtin; refine stop_in ?_)
     unfold Stopped
     have hO1 := hO.alloc (.cells #[.int .u8 ((N : Int) / 65536 % 256)] 5);have hb1 := hb.alloc hb.size (.cells #[.int .u8 ((N : Int) / 65536 % 256)] 5)
     refine wpList_app_bytes rfl (.tmp 40) (.tmp 46) rfl w.heap.size _ _ rfl hO1 _ 1 _ [byteAt N 16] rfl rfl (Src.new _ _ _ _ rfl _ (by simp only [List.map_cons, List.map_nil]; rw [byteAt_val N 16 65536 rfl])) (by have := HLL.out; simp only [List.length_singleton]; omega) hb1.size fun v' w5 hO5 hg5 hat5 => ?_
     have hb5 := below_of_grown hb1 hg5 (fun q hq => (hO.lt q hq).1);rw [List.append_assoc, show [byteAt N 16] = [(be64 N).getD 5 0] from rfl, HT.out (by omega)] at hO5;obtain ⟨A5, c5, rfl, _⟩ := hO5.form
     have HL5 : Hid ((zerosP l z ++ (be64 N).take (5 + 1)).length = m + 6) := by
      have := HM.out;rw [Hid, List.length_append, zerosP_len, List.length_take, be64_len]
      omega
     rw [HL5.out] at hO5 ⊢;clear hO hb hO1 hb1 hg5 hat5;go_wp2_with fail
     go_roundw
     case rel => exact ⟨6, m + 6, A5, c5, rfl, by go_num, by omega, rfl, hO5, hb5⟩
     case measure => have := HMM.out; simp only [lenS]; omega
    ·go_wp2_with (at_builtin; refine stop_in ?_)
     unfold Stopped
     have hO1 := hO.alloc (.cells #[.int .u8 ((N : Int) / 256 % 256)] 5);have hb1 := hb.alloc hb.size (.cells #[.int .u8 ((N : Int) / 256 % 256)] 5)
     refine wpList_app_bytes rfl (.tmp 40) (.tmp 46) rfl w.heap.size _ _ rfl hO1 _ 1 _ [byteAt N 8] rfl rfl (Src.new _ _ _ _ rfl _ (by simp only [List.map_cons, List.map_nil]; rw [byteAt_val N 8 256 rfl])) (by have := HLL.out; simp only [List.length_singleton]; omega) hb1.size fun v' w5 hO5 hg5 hat5 => ?_
     have hb5 := below_of_grown hb1 hg5 (fun q hq => (hO.lt q hq).1);rw [List.append_assoc, show [byteAt N 8] = [(be64 N).getD 6 0] from rfl, HT.out (by omega)] at hO5;obtain ⟨A5, c5, rfl, _⟩ := hO5.form
     have HL5 : Hid ((zerosP l z ++ (be64 N).take (6 + 1)).length = m + 7) := by
      have := HM.out;rw [Hid, List.length_append, zerosP_len, List.length_take, be64_len]
      omega
     rw [HL5.out] at hO5 ⊢;clear hO hb hO1 hb1 hg5 hat5;go_wp2_with fail
     go_roundw
     case rel => exact ⟨7, m + 7, A5, c5, rfl, by go_num, by omega, rfl, hO5, hb5⟩
     case measure => have := HMM.out; simp only [lenS]; omega
    ·go_wp2_with (at_builtin; refine stop_in ?_)
     unfold Stopped
     have hO1 := hO.alloc (.cells #[.int .u8 ((N : Int) % 256)] 5);have hb1 := hb.alloc hb.size (.cells #[.int .u8 ((N : Int) % 256)] 5)
     refine wpList_app_bytes rfl (.tmp 40) (.tmp 46) rfl w.heap.size _ _ rfl hO1 _ 1 _ [byteAt N 0] rfl rfl (Src.new _ _ _ _ rfl _ (by simp only [List.map_cons, List.map_nil]; rw [byteAt_val N 0 1 rfl]; simp)) (by have := HLL.out; simp only [List.length_singleton]; omega) hb1.size fun v' w5 hO5 hg5 hat5 => ?_
     have hb5 := below_of_grown hb1 hg5 (fun q hq => (hO.lt q hq).1);rw [List.append_assoc, show [byteAt N 0] = [(be64 N).getD 7 0] from rfl, HT.out (by omega)] at hO5;obtain ⟨A5, c5, rfl, _⟩ := hO5.form
     have HL5 : Hid ((zerosP l z ++ (be64 N).take (7 + 1)).length = m + 8) := by
      have := HM.out;rw [Hid, List.length_append, zerosP_len, List.length_take, be64_len]
      omega
     rw [HL5.out] at hO5 ⊢;clear hO hb hO1 hb1 hg5 hat5;go_wp2_with fail
     go_roundw
     case rel => exact ⟨8, m + 8, A5, c5, rfl, by go_num, by omega, rfl, hO5, hb5⟩
     case measure => have := HMM.out; simp only [lenS]; omega
    ·have hp : zerosP l z ++ (be64 N).take 8 = padP l := by
      rw [zerosP, HST.out, ← HNN.out];rfl
     rw [hp] at hO;go_wp2_with fail
     go_ret
     exact ⟨_, rfl, by have h := hO.form; obtain ⟨_, _, e, _⟩ := h; exact ⟨hO, hb⟩⟩
  ·have hz : Hid (z + 1 ≤ padN l.length) := padN_go HZ.out (by have := HR.out; have := HM8.out; have := HM.out; omega);have hO1 := hO.alloc (.cells #[.int .u8 0] 5);have hb1 := hb.alloc hb.size (.cells #[.int .u8 0] 5);go_wp2_with (at_builtin; refine stop_in ?_)
   refine wpList_app_bytes rfl (.tmp 27) (.tmp 28) rfl w.heap.size _ _ rfl hO1 _ 1 _ [0] rfl rfl (Src.new _ _ _ _ rfl _ rfl) (by rw [zerosP_len]; have := HN.out.2; have := HB.out; have := hz.out; simp only [List.length_singleton]; omega) hb1.size fun v' w5 hO5 hg5 hat5 => ?_
   have hb5 := below_of_grown hb1 hg5 (fun q hq => (hO.lt q hq).1);rw [zerosP_succ] at hO5;obtain ⟨A5, c5, rfl, _⟩ := hO5.form;rw [zerosP_len] at hO5 ⊢;clear hO hb hO1 hb1 hg5 hat5;go_wp2_with fail
   go_roundw
   case rel => exact ⟨z + 1, _, A5, c5, rfl, rfl, hz, hO5, hb5⟩
   case measure => have := HM.out; have := HB.out; have := hz.out; simp only [lenS]; omega
theorem ref_pad {A : Option Addr} {c : Nat} {l : List UInt8} {n : Nat} (hn : n = l.length) (hmax : l.length ≤ 1099511627) (w : World) (hS : Src w A (l.map byteV)) :
  Calls Tryz.prog 36 #[.slice A n c, .int .i64 64] w fun e w' => ∃ r, e = .returned r ∧ Fresh w (padP l) r w' := by
 have HN := Hh (And.intro hn hmax);obtain ⟨N, hN⟩ : ∃ N, lenP l.length = N := ⟨_, rfl⟩
 have hw2 : IntKind.u64.wrap ((n : Int)) = (n : Int) := IntWalk.u64_in _ (by omega);have hw3 : IntKind.u64.wrap ((n : Int) * 8) = (N : Int) := by rw [← hN, lenP, IntKind.wrap_u64, hn]; omega
 have HNN := Hh hN;clear hn hmax hN;go_enter Tryz.func36, Tryz.ntmps36
 go_wp2_with (at_builtin; refine stop_in ?_)
 refine wpList_app_bytes rfl (.const (.slice none 0 0)) (.tmp 8) rfl w.heap.size (.slice none 0 0) [] rfl (OwnB.nil _ _) A n c l rfl HN.out.1 hS (by have := HN.out.2; simp; omega) (Nat.le_refl _) fun v' w2 hO2 hg2 hat2 => ?_
 rw [List.nil_append] at hO2;have hb2 := grown_none (by simpa [Value.ownBlock] using hg2);have hO3 := hO2.alloc (.cells #[.int .u8 128] 5);have hb3 := hb2.alloc hb2.size (.cells #[.int .u8 128] 5);clear hS hg2 hat2;go_wp2_with (at_builtin; refine stop_in ?_)
 refine wpList_app_bytes rfl (.tmp 9) (.tmp 10) rfl w.heap.size _ l rfl hO3 _ 1 _ [128] rfl rfl (Src.new _ _ _ _ rfl _ rfl) (by have := HN.out.2; simp; omega) hb3.size fun v3 w3 hO4 hg3 hat3 => ?_
 have hb4 := below_of_grown hb3 hg3 (fun q hq => (hO2.lt q hq).1);replace hO4 : OwnB w3 w.heap.size v3 (zerosP l 0) := by rw [zerosP]; simpa using hO4
 obtain ⟨A3, c3, rfl, _⟩ := hO4.form;rw [zerosP_len] at hO4 ⊢;clear hO2 hO3 hb2 hb3 hg3 hat3;go_wp2_with fail
 go_loopw [5] (fun v7 wr => ∃ (z m : Nat) (VA : Option Addr) (vc : Nat), v7 = .slice VA m vc ∧ Hid (m = l.length + 1 + z) ∧ Hid (z ≤ padN l.length) ∧ OwnB wr w.heap.size (.slice VA m vc) (zerosP l z) ∧ Below w.heap.size w wr) (fun v7 _ => l.length + 65 - lenS v7)
 case atStart => exact ⟨0, _, A3, c3, rfl, rfl, Nat.zero_le _, hO4, hb4⟩
 case round =>
  clear hO4 hb4;obtain ⟨z, m, VA, vc, rfl, HM, HZ, hO, hb⟩ := hrel;have HB := Hh (padN_lt l.length);obtain ⟨r, hr⟩ : ∃ r, m % 64 = r := ⟨_, rfl⟩
  have hr1 : (m : Int).tmod 64 = (r : Int) := by rw [← hr]; exact (Int.ofNat_tmod m 64).symm
  have hr2 : (m : Int) % 64 = (r : Int) := by rw [← hr]; omega
  have HR := Hh hr;clear hr
  by_cases h0 : r = 56
  ·subst h0;have HST : Hid (z = padN l.length) := padN_stop HZ.out (by have := HR.out; have := HM.out; omega);rw [show ((56 : Nat) : Int) = 56 from rfl] at hr1 hr2;go_wp2_with fail
   go_loopw [5] (fun v7 wx => v7 = .slice VA m vc ∧ OwnB wx w.heap.size (.slice VA m vc) (zerosP l z) ∧ Below w.heap.size w wx) (fun v7 _ => 0)
   case atStart => exact ⟨rfl, hO, hb⟩
   case round =>
    clear hO hb;obtain ⟨rfl, hO, hb⟩ := hrel;go_wp2_with fail
    go_loopw [5, 7] (fun v7 v9 wx => ∃ (k mm : Nat) (VB : Option Addr) (vb : Nat), v7 = .slice VB mm vb ∧ v9 = .int .i64 (7 - (k : Int)) ∧ k ≤ 8 ∧ Hid (mm = m + k) ∧ OwnB wx w.heap.size (.slice VB mm vb) (zerosP l z ++ (be64 N).take k) ∧ Below w.heap.size w wx) (fun v7 _ _ => m + 8 - lenS v7)
    case atStart => exact ⟨0, m, VA, vc, rfl, rfl, by omega, rfl, by simpa using hO, hb⟩
    case round =>
     clear hO hb;obtain ⟨k, mm, VB, vb, rfl, rfl, hk, HMM, hO, hb⟩ := hrel
     have HLL : Hid ((zerosP l z ++ (be64 N).take k).length ≤ 1099511627700) := by
      have := HM.out; have := HMM.out; have := HN.out; have := HZ.out; have := HB.out
      rw [Hid, List.length_append, zerosP_len, List.length_take, be64_len]
      omega
     have HT := Hh (fun h => take_be64 N k h)
     rcases (show k = 0 ∨ k = 1 ∨ k = 2 ∨ k = 3 ∨ k = 4 ∨ k = 5 ∨ k = 6 ∨ k = 7 ∨ k = 8 by omega) with rfl | rfl | rfl | rfl | rfl | rfl | rfl | rfl | rfl
     ·go_wp2_with (at_builtin; refine stop_in ?_)
      unfold Stopped
      have hO1 := hO.alloc (.cells #[.int .u8 ((N : Int) / 72057594037927936 % 256)] 5);have hb1 := hb.alloc hb.size (.cells #[.int .u8 ((N : Int) / 72057594037927936 % 256)] 5)
      refine wpList_app_bytes rfl (.tmp 42) (.tmp 49) rfl w.heap.size _ _ rfl hO1 _ 1 _ [byteAt N 56] rfl rfl (Src.new _ _ _ _ rfl _ (by simp only [List.map_cons, List.map_nil]; rw [byteAt_val N 56 72057594037927936 rfl])) (by have := HLL.out; simp only [List.length_singleton]; omega) hb1.size fun v' w5 hO5 hg5 hat5 => ?_
      have hb5 := below_of_grown hb1 hg5 (fun q hq => (hO.lt q hq).1);rw [List.append_assoc, show [byteAt N 56] = [(be64 N).getD 0 0] from rfl, HT.out (by omega)] at hO5;obtain ⟨A5, c5, rfl, _⟩ := hO5.form
      have HL5 : Hid ((zerosP l z ++ (be64 N).take (0 + 1)).length = m + 1) := by
       have := HM.out;rw [Hid, List.length_append, zerosP_len, List.length_take, be64_len]
       omega
      rw [HL5.out] at hO5 ⊢;clear hO hb hO1 hb1 hg5 hat5;go_wp2_with fail
      go_roundw
      case rel => exact ⟨1, m + 1, A5, c5, rfl, by go_num, by omega, rfl, hO5, hb5⟩
      case measure => have := HMM.out; simp only [lenS]; omega
     ·go_wp2_with (at_builtin; refine stop_in ?_)
      unfold Stopped
      have hO1 := hO.alloc (.cells #[.int .u8 ((N : Int) / 281474976710656 % 256)] 5);have hb1 := hb.alloc hb.size (.cells #[.int .u8 ((N : Int) / 281474976710656 % 256)] 5)
      refine wpList_app_bytes rfl (.tmp 42) (.tmp 49) rfl w.heap.size _ _ rfl hO1 _ 1 _ [byteAt N 48] rfl rfl (Src.new _ _ _ _ rfl _ (by simp only [List.map_cons, List.map_nil]; rw [byteAt_val N 48 281474976710656 rfl])) (by have := HLL.out; simp only [List.length_singleton]; omega) hb1.size fun v' w5 hO5 hg5 hat5 => ?_
      have hb5 := below_of_grown hb1 hg5 (fun q hq => (hO.lt q hq).1);rw [List.append_assoc, show [byteAt N 48] = [(be64 N).getD 1 0] from rfl, HT.out (by omega)] at hO5;obtain ⟨A5, c5, rfl, _⟩ := hO5.form
      have HL5 : Hid ((zerosP l z ++ (be64 N).take (1 + 1)).length = m + 2) := by
       have := HM.out;rw [Hid, List.length_append, zerosP_len, List.length_take, be64_len]
       omega
      rw [HL5.out] at hO5 ⊢;clear hO hb hO1 hb1 hg5 hat5;go_wp2_with fail
      go_roundw
      case rel => exact ⟨2, m + 2, A5, c5, rfl, by go_num, by omega, rfl, hO5, hb5⟩
      case measure => have := HMM.out; simp only [lenS]; omega
     ·go_wp2_with (at_builtin; refine stop_in ?_)
      unfold Stopped
      have hO1 := hO.alloc (.cells #[.int .u8 ((N : Int) / 1099511627776 % 256)] 5);have hb1 := hb.alloc hb.size (.cells #[.int .u8 ((N : Int) / 1099511627776 % 256)] 5)
      refine wpList_app_bytes rfl (.tmp 42) (.tmp 49) rfl w.heap.size _ _ rfl hO1 _ 1 _ [byteAt N 40] rfl rfl (Src.new _ _ _ _ rfl _ (by simp only [List.map_cons, List.map_nil]; rw [byteAt_val N 40 1099511627776 rfl])) (by have := HLL.out; simp only [List.length_singleton]; omega) hb1.size fun v' w5 hO5 hg5 hat5 => ?_
      have hb5 := below_of_grown hb1 hg5 (fun q hq => (hO.lt q hq).1);rw [List.append_assoc, show [byteAt N 40] = [(be64 N).getD 2 0] from rfl, HT.out (by omega)] at hO5;obtain ⟨A5, c5, rfl, _⟩ := hO5.form
      have HL5 : Hid ((zerosP l z ++ (be64 N).take (2 + 1)).length = m + 3) := by
       have := HM.out;rw [Hid, List.length_append, zerosP_len, List.length_take, be64_len]
       omega
      rw [HL5.out] at hO5 ⊢;clear hO hb hO1 hb1 hg5 hat5;go_wp2_with fail
      go_roundw
      case rel => exact ⟨3, m + 3, A5, c5, rfl, by go_num, by omega, rfl, hO5, hb5⟩
      case measure => have := HMM.out; simp only [lenS]; omega
     ·go_wp2_with (at_builtin; refine stop_in ?_)
      unfold Stopped
      have hO1 := hO.alloc (.cells #[.int .u8 ((N : Int) / 4294967296 % 256)] 5);have hb1 := hb.alloc hb.size (.cells #[.int .u8 ((N : Int) / 4294967296 % 256)] 5)
      refine wpList_app_bytes rfl (.tmp 42) (.tmp 49) rfl w.heap.size _ _ rfl hO1 _ 1 _ [byteAt N 32] rfl rfl (Src.new _ _ _ _ rfl _ (by simp only [List.map_cons, List.map_nil]; rw [byteAt_val N 32 4294967296 rfl])) (by have := HLL.out; simp only [List.length_singleton]; omega) hb1.size fun v' w5 hO5 hg5 hat5 => ?_
      have hb5 := below_of_grown hb1 hg5 (fun q hq => (hO.lt q hq).1);rw [List.append_assoc, show [byteAt N 32] = [(be64 N).getD 3 0] from rfl, HT.out (by omega)] at hO5;obtain ⟨A5, c5, rfl, _⟩ := hO5.form
      have HL5 : Hid ((zerosP l z ++ (be64 N).take (3 + 1)).length = m + 4) := by
       have := HM.out;rw [Hid, List.length_append, zerosP_len, List.length_take, be64_len]
       omega
      rw [HL5.out] at hO5 ⊢;clear hO hb hO1 hb1 hg5 hat5;go_wp2_with fail
      go_roundw
      case rel => exact ⟨4, m + 4, A5, c5, rfl, by go_num, by omega, rfl, hO5, hb5⟩
      case measure => have := HMM.out; simp only [lenS]; omega
     ·go_wp2_with (at_builtin; refine stop_in ?_)
      unfold Stopped
      have hO1 := hO.alloc (.cells #[.int .u8 ((N : Int) / 16777216 % 256)] 5);have hb1 := hb.alloc hb.size (.cells #[.int .u8 ((N : Int) / 16777216 % 256)] 5)
      refine wpList_app_bytes rfl (.tmp 42) (.tmp 49) rfl w.heap.size _ _ rfl hO1 _ 1 _ [byteAt N 24] rfl rfl (Src.new _ _ _ _ rfl _ (by simp only [List.map_cons, List.map_nil]; rw [byteAt_val N 24 16777216 rfl])) (by have := HLL.out; simp only [List.length_singleton]; omega) hb1.size fun v' w5 hO5 hg5 hat5 => ?_
      have hb5 := below_of_grown hb1 hg5 (fun q hq => (hO.lt q hq).1);rw [List.append_assoc, show [byteAt N 24] = [(be64 N).getD 4 0] from rfl, HT.out (by omega)] at hO5;obtain ⟨A5, c5, rfl, _⟩ := hO5.form
      have HL5 : Hid ((zerosP l z ++ (be64 N).take (4 + 1)).length = m + 5) := by
       have := HM.out;rw [Hid, List.length_append, zerosP_len, List.length_take, be64_len]
       omega
      rw [HL5.out] at hO5 ⊢;clear hO hb hO1 hb1 hg5 hat5;go_wp2_with fail
      go_roundw
      case rel => exact ⟨5, m + 5, A5, c5, rfl, by go_num, by omega, rfl, hO5, hb5⟩
      case measure => have := HMM.out; simp only [lenS]; omega
     ·go_wp2_with (at_builtin; refine stop_in ?_)
      unfold Stopped
      have hO1 := hO.alloc (.cells #[.int .u8 ((N : Int) / 65536 % 256)] 5);have hb1 := hb.alloc hb.size (.cells #[.int .u8 ((N : Int) / 65536 % 256)] 5)
      refine wpList_app_bytes rfl (.tmp 42) (.tmp 49) rfl w.heap.size _ _ rfl hO1 _ 1 _ [byteAt N 16] rfl rfl (Src.new _ _ _ _ rfl _ (by simp only [List.map_cons, List.map_nil]; rw [byteAt_val N 16 65536 rfl])) (by have := HLL.out; simp only [List.length_singleton]; omega) hb1.size fun v' w5 hO5 hg5 hat5 => ?_
      have hb5 := below_of_grown hb1 hg5 (fun q hq => (hO.lt q hq).1);rw [List.append_assoc, show [byteAt N 16] = [(be64 N).getD 5 0] from rfl, HT.out (by omega)] at hO5;obtain ⟨A5, c5, rfl, _⟩ := hO5.form
      have HL5 : Hid ((zerosP l z ++ (be64 N).take (5 + 1)).length = m + 6) := by
       have := HM.out;rw [Hid, List.length_append, zerosP_len, List.length_take, be64_len]
       omega
      rw [HL5.out] at hO5 ⊢;clear hO hb hO1 hb1 hg5 hat5;go_wp2_with fail
      go_roundw
      case rel => exact ⟨6, m + 6, A5, c5, rfl, by go_num, by omega, rfl, hO5, hb5⟩
      case measure => have := HMM.out; simp only [lenS]; omega
     ·go_wp2_with (at_builtin; refine stop_in ?_)
      unfold Stopped
      have hO1 := hO.alloc (.cells #[.int .u8 ((N : Int) / 256 % 256)] 5);have hb1 := hb.alloc hb.size (.cells #[.int .u8 ((N : Int) / 256 % 256)] 5)
      refine wpList_app_bytes rfl (.tmp 42) (.tmp 49) rfl w.heap.size _ _ rfl hO1 _ 1 _ [byteAt N 8] rfl rfl (Src.new _ _ _ _ rfl _ (by simp only [List.map_cons, List.map_nil]; rw [byteAt_val N 8 256 rfl])) (by have := HLL.out; simp only [List.length_singleton]; omega) hb1.size fun v' w5 hO5 hg5 hat5 => ?_
      have hb5 := below_of_grown hb1 hg5 (fun q hq => (hO.lt q hq).1);rw [List.append_assoc, show [byteAt N 8] = [(be64 N).getD 6 0] from rfl, HT.out (by omega)] at hO5;obtain ⟨A5, c5, rfl, _⟩ := hO5.form
      have HL5 : Hid ((zerosP l z ++ (be64 N).take (6 + 1)).length = m + 7) := by
       have := HM.out;rw [Hid, List.length_append, zerosP_len, List.length_take, be64_len]
       omega
      rw [HL5.out] at hO5 ⊢;clear hO hb hO1 hb1 hg5 hat5;go_wp2_with fail
      go_roundw
      case rel => exact ⟨7, m + 7, A5, c5, rfl, by go_num, by omega, rfl, hO5, hb5⟩
      case measure => have := HMM.out; simp only [lenS]; omega
     ·go_wp2_with (at_builtin; refine stop_in ?_)
      unfold Stopped
      have hO1 := hO.alloc (.cells #[.int .u8 ((N : Int) % 256)] 5);have hb1 := hb.alloc hb.size (.cells #[.int .u8 ((N : Int) % 256)] 5)
      refine wpList_app_bytes rfl (.tmp 42) (.tmp 49) rfl w.heap.size _ _ rfl hO1 _ 1 _ [byteAt N 0] rfl rfl (Src.new _ _ _ _ rfl _ (by simp only [List.map_cons, List.map_nil]; rw [byteAt_val N 0 1 rfl]; simp)) (by have := HLL.out; simp only [List.length_singleton]; omega) hb1.size fun v' w5 hO5 hg5 hat5 => ?_
      have hb5 := below_of_grown hb1 hg5 (fun q hq => (hO.lt q hq).1);rw [List.append_assoc, show [byteAt N 0] = [(be64 N).getD 7 0] from rfl, HT.out (by omega)] at hO5;obtain ⟨A5, c5, rfl, _⟩ := hO5.form
      have HL5 : Hid ((zerosP l z ++ (be64 N).take (7 + 1)).length = m + 8) := by
       have := HM.out;rw [Hid, List.length_append, zerosP_len, List.length_take, be64_len]
       omega
      rw [HL5.out] at hO5 ⊢;clear hO hb hO1 hb1 hg5 hat5;go_wp2_with fail
      go_roundw
      case rel => exact ⟨8, m + 8, A5, c5, rfl, by go_num, by omega, rfl, hO5, hb5⟩
      case measure => have := HMM.out; simp only [lenS]; omega
     ·have hp : zerosP l z ++ (be64 N).take 8 = padP l := by
       rw [zerosP, HST.out, ← HNN.out];rfl
      rw [hp] at hO;go_wp2_with fail
      go_ret
      exact ⟨_, rfl, by have h := hO.form; obtain ⟨_, _, e, _⟩ := h; exact ⟨hO, hb⟩⟩
  ·have hz : Hid (z + 1 ≤ padN l.length) := padN_go HZ.out (by have := HR.out; have := HM.out; omega);have hO1 := hO.alloc (.cells #[.int .u8 0] 5);have hb1 := hb.alloc hb.size (.cells #[.int .u8 0] 5);have h56 : ¬ ((r : Int) = 56) := by omega
   go_wp2_with (at_builtin; refine stop_in ?_)
   refine wpList_app_bytes rfl (.tmp 21) (.tmp 22) rfl w.heap.size _ _ rfl hO1 _ 1 _ [0] rfl rfl (Src.new _ _ _ _ rfl _ rfl) (by rw [zerosP_len]; have := HN.out.2; have := HB.out; have := hz.out; simp only [List.length_singleton]; omega) hb1.size fun v' w5 hO5 hg5 hat5 => ?_
   have hb5 := below_of_grown hb1 hg5 (fun q hq => (hO.lt q hq).1);rw [zerosP_succ] at hO5;obtain ⟨A5, c5, rfl, _⟩ := hO5.form;rw [zerosP_len] at hO5 ⊢;clear hO hb hO1 hb1 hg5 hat5;go_wp2_with fail
   go_roundw
   case rel => exact ⟨z + 1, _, A5, c5, rfl, rfl, hz, hO5, hb5⟩
   case measure => have := HM.out; have := HB.out; have := hz.out; simp only [lenS]; omega
theorem IsBytes.take' {H : Snap} {A : Option Addr} {c : Nat} {l : List UInt8} (h : IsBytes H A c l) (m : Nat) : IsBytes H A c (l.take m) := by
 refine ⟨by have := h.le; rw [List.length_take]; omega, h.max, fun hne => ?_⟩
 obtain ⟨b, off, e, hc⟩ := h.row (by intro h0; rw [List.map_eq_nil_iff] at h0; subst h0; simp at hne)
 refine ⟨b, off, e, fun j v hj => hc j v ?_⟩
 rw [List.map_take, List.getElem?_take] at hj
 split at hj
 ·exact hj
 ·cases hj
theorem IsBytes.drop' {H : Snap} {A : Option Addr} {c : Nat} {l : List UInt8} (h : IsBytes H A c l) (k : Nat) (hk : k ≤ l.length) : IsBytes H (if c = k then A else Option.map (fun x => x.add k) A) (c - k) (l.drop k) := by
 have hle := h.le;have hmax := h.max
 refine ⟨by rw [List.length_drop]; omega, by omega, fun hne => ?_⟩
 have hkl : k < l.length := by
  rcases Nat.lt_or_ge k l.length with h1 | h1
  ·exact h1
  ·rw [List.drop_eq_nil_of_le h1] at hne; exact absurd rfl hne
 obtain ⟨b, off, rfl, hc⟩ := h.row (by intro h0; rw [List.map_eq_nil_iff] at h0; subst h0; simp at hkl);rw [if_neg (by omega)]
 refine ⟨b, off + k, by rw [Option.map_some, addr_add], fun j v hj => ?_⟩
 rw [List.map_drop, List.getElem?_drop] at hj;have := hc (k + j) v hj;rwa [← Nat.add_assoc] at this
theorem run_index_array_in {P : Program} (t e : TypeId) (n : Nat) (cs : Array Value) (k : IntKind) (j : Nat) (i : Int) (u : Value) (h : P.underlying t = some (.array n e)) (he : P.plainKey e = true) (i0 : TypeInfo) (hi0 : P.info? e = some i0) (h1 : i0.size = 1) (hi : i = (j : Int)) (hj : j < n) (hv : cs[j]? = some u) (w : World) :
  (Instr.index t (.agg cs) (.int k i)).run P w = .ok u w := by
 subst hi;have hn : (0 : Int) ≤ (j : Int) ∧ (j : Int) < (n : Int) := by omega
 have hp := run_part_plain (P := P) (w := w) he hv
 have e1 : (Instr.index t (.agg cs) (.int k (j : Int))).run P w = (part e cs j).run P w := by
  simp [Instr.index, run_underlying h, asIntOf, hn, hj, sizeOf, typeInfo, hi0, h1, go_sem]
 rw [e1, hp]
theorem run_index8u (w : World) (cs : Array Value) (j : Nat) (u : Value) (i : Int) (hi : i = (j : Int)) (hj : j < 8) (hv : cs[j]? = some u) :
  (Instr.index 64 (.agg cs) (.int .i64 i)).run Tryz.prog w = .ok u w := by
 obtain ⟨i0, hi0, hz0, hz1, hz2⟩ := info_parts (show (Tryz.prog.info? 62).map (fun i => (i.zero, i.size, i.bytes)) = some (some (.int .u32 0), 1, 4) by kernel_rfl)
 exact run_index_array_in _ _ 8 cs .i64 j i u Tryz.underlying64 (by kernel_rfl) i0 hi0 hz1 hi hj hv w
theorem run_index8w (w : World) (cs : Array Value) (j : Nat) (u : Value) (i : Int) (hi : i = (j : Int)) (hj : j < 8) (hv : cs[j]? = some u) :
  (Instr.index 59 (.agg cs) (.int .i64 i)).run Tryz.prog w = .ok u w := by
 obtain ⟨i0, hi0, hz0, hz1, hz2⟩ := info_parts (show (Tryz.prog.info? 49).map (fun i => (i.zero, i.size, i.bytes)) = some (some (.int .u64 0), 1, 8) by kernel_rfl)
 exact run_index_array_in _ _ 8 cs .i64 j i u Tryz.underlying59 (by kernel_rfl) i0 hi0 hz1 hi hj hv w
end Go.Proofs.YtmacemcajlgddaaGreatDoor
