/- squeezed. Walks: bytes, with something chang -/
import Derived.Test.YtlebpackbfcfeaaGreatDoorK43
import Derived.Test.YtlebpackbfcfeaaGreatDoorK40
import Derived.Test.YtlebpackbfcfeaaGreatDoorK17
import Derived.Test.YtlebpackbfcfeaaGreatDoorK11
set_option linter.unusedVariables false
set_option linter.unusedSimpArgs false
set_option maxRecDepth 100000
set_option maxHeartbeats 6400000
namespace Go.Proofs.YtlebpackbfcfeaaGreatDoor
open Go.RowKit
theorem byte_wrap (v : Int) : ∃ x : UInt8, Value.int .u8 (IntKind.u8.wrap v) = byteV x := by
 refine ⟨UInt8.ofNat (v % 256).toNat, ?_⟩
 have h : (v % 256).toNat < 256 := by omega
 rw [IntKind.wrap_u8, byteV, UInt8.toNat_ofNat_of_lt' (by simpa using h)];congr 1
 omega
theorem litSrc {W : World} {base : Nat} {v : Value} {l : List UInt8} (_h : OwnB W base v l) (cs : Array Value) (t : TypeId) : Src (W.alloc (.cells cs t)) (some ⟨W.heap.size, 0, none⟩) cs.toList := Src.lit _ _ _
theorem OwnB.take_ {w : World} {base : Nat} {A : Option Addr} {n c : Nat} {l : List UInt8} (h : OwnB w base (.slice A n c) l) {k : Nat} (hk : k ≤ l.length) : OwnB w base (.slice A k c) (l.take k) := by
 have hkl : (l.take k).length = k := by rw [List.length_take]; omega
 refine ⟨by simp, ?_⟩
 rw [hkl]
 rcases h.2 with ⟨hv, hz⟩ | ⟨g, cap, cur, hv, hb, hg, hc, hm, hcz, ht⟩
 ·cases hv
  have : k = 0 := by omega
  subst this
  exact .inl ⟨rfl, rfl⟩
 ·cases hv
  refine .inr ⟨g, c, cur, rfl, hb, hg, by omega, hm, hcz, ?_⟩
  rw [List.map_take, ← ht, List.take_take, show min k (l.length * 1) = k * 1 by omega]
theorem OwnB.store_ {w : World} {base : Nat} {A : Option Addr} {n c : Nat} {l : List UInt8} (h : OwnB w base (.slice A n c) l) {k : Nat} (hk : k < l.length) : ∃ g cur, A = some ⟨g, 0, none⟩ ∧ base ≤ g ∧ Blk w g 5 cur ∧ k < cur.size ∧
  ∀ (w' : World) (x : UInt8), Blk w' g 5 (cur.setIfInBounds k (byteV x)) → OwnB w' base (.slice A n c) (l.set k x) := by
 rcases h.2 with ⟨hv, hz⟩ | ⟨g, cap, cur, hv, hb, hg, hc, hm, hcz, ht⟩
 ·omega
 ·cases hv
  refine ⟨g, cur, rfl, hb, hg, by omega, fun w' x hB => ⟨by simp, .inr ⟨g, c, _, by simp, hb, hB, by simpa using hc, hm, by rw [Array.size_setIfInBounds, hcz], ?_⟩⟩⟩
  rw [Array.toList_setIfInBounds, List.length_set, List.take_set, ht, List.map_set]
theorem size_u8c : (Tryz.prog.info? 5).map (·.size) = some 1 := by kernel_rfl
def Some_ (w : World) (H : Snap) (e : Ending) (w' : World) : Prop := ∃ B d l', e = .returned (.slice B l'.length d) ∧ ∃ H', Grows w H w' H' ∧ IsBytes H' B d l'
theorem Some_.of {w w' : World} {H : Snap} {e : Ending} {B : Option Addr} {n d : Nat} {l' : List UInt8} (hH : Holds w H) (he : e = .returned (.slice B n d)) (hf : Fresh w l' (.slice B n d) w') : Some_ w H e w' := by
 obtain ⟨H', hG, hb, hn⟩ := Fresh.snapB hH hf
 exact ⟨B, d, l', by rw [← hn]; exact he, H', hG, hb⟩
theorem mk_Spoilt {H : Snap} (w : World) (hH : Holds w H) {A : Option Addr} {n c : Nat} {l : List UInt8} (hn : n = l.length) (hl : IsBytes H A c l) (hll : l.length ≤ 1099511627) (at_ by_ : Int) :
  Calls Tryz.prog 12 #[.slice A n c, .int .i64 at_, .int .i64 by_] w (Some_ w H) := by
 obtain ⟨x, hx⟩ := byte_wrap by_;have HX := Hh hx;have HN := Hh (And.intro hn hll);have HS := Hh (Src.of_row hl.row hH);have HH := Hh hH;clear hx hl hH;obtain ⟨bw, hbw⟩ : ∃ bw, IntKind.u8.wrap by_ = bw := ⟨_, rfl⟩
 rw [hbw] at HX;have MD := Hh (fun (v : Int) (w : World) => mk_Mod v 4 (by omega) (by omega) w);go_enter Tryz.func12, Tryz.ntmps12
 go_wp2_with (at_builtin; refine stop_in ?_)
 refine wpList_app_bytes rfl (.const (.slice none 0 0)) (.tmp 9) rfl w.heap.size (.slice none 0 0) [] rfl (OwnB.nil _ _) A n c l rfl HN.out.1 HS.out (by have := HN.out.2; simp; omega) (Nat.le_refl _) fun v' w1 hO1 hg1 hat1 => ?_
 rw [List.nil_append] at hO1;have hb1 := grown_none (by simpa [Value.ownBlock] using hg1);obtain ⟨RA, rc, rfl, hrc, hrm, hsr⟩ := hO1.form;rw [← hn] at hO1 hrc ⊢;have HRC := Hh (And.intro hrc hrm);clear hg1 hat1 hrc hrm hsr hn hll
 by_cases h0 : n = 0
 ·subst h0;go_wp2_with fail
  go_ret
  exact Some_.of HH.out rfl (by
   have hf := Fresh.lit w1 [x] #[.int .u8 bw] 1 rfl (by simp) (by simp [← HX.out])
   exact hf.step hb1)
 have e0 : ((n : Int) == 0) = false := by simp; omega
 have e0' : ((n : Int) = 0) = False := eq_false (by omega);have M1 := mk_Mod at_ (n : Int) (by omega) (by have := HN.out.1; have := HN.out.2; omega) w1;have mb := modP_bnd at_ (n : Int) (by omega);obtain ⟨kk, hkk⟩ : ∃ kk, modP at_ (n : Int) = kk := ⟨_, rfl⟩
 rw [hkk] at M1 mb;obtain ⟨k, rfl⟩ := Int.eq_ofNat_of_zero_le mb.1;have hkn : k < n := by omega
 have hki : (k : Int) < (n : Int) := by omega
 have hk0 : (0 : Int) ≤ (k : Int) := by omega
 have hnr : (n : Int) ≤ (rc : Int) := by have h := HRC.out.1; omega
 have hkr : (k : Int) ≤ (rc : Int) := by omega
 have hn40 : (n : Int) ≤ 1099511627 := by have := HN.out.1; have := HN.out.2; omega
 have M1h := Hh M1;have HK := Hh (And.intro hkn h0);clear M1 mb hkk h0 hkn;go_wp2_with fail
 refine M1h.out.mono ?_
 rintro e w2 ⟨rfl, rfl⟩
 go_wp2_with fail
 refine (MD.out _ _).mono ?_
 rintro e w3 ⟨rfl, rfl⟩
 clear M1h;have mb4 := fun v => modP_bnd v 4 (by omega)
 generalize hs : modP _ 4 = s
 have hs4 : 0 ≤ s ∧ s < 4 := by rw [← hs]; exact mb4 _
 clear hs mb4 MD
 rcases (by omega : s = 0 ∨ s = 1 ∨ s = 2 ∨ s = 3) with rfl | rfl | rfl | rfl
 ·obtain ⟨gq, cur, rfl, hbg, hBq, hkc, hset⟩ := hO1.store_ (k := k) (by have := HN.out.1; have := HK.out.1; omega);clear hs4;go_wp2_with (with_reducible refine stop_store ?_)
  refine wpList_store_cell rfl _ _ _ rfl rfl gq k (.int .u8 bw) rfl rfl _ _ hBq size_u8c hkc rfl fun w4 hB4 hg4 => ?_
  have hO4 := hset w4 x (by rw [← HX.out]; exact hB4);have hb4 := below_of_grown hb1 hg4 (by rintro q ⟨⟩; exact hbg);go_wp2_with fail
  go_ret
  exact Some_.of HH.out rfl ⟨hO4, hb4⟩
 ·clear hs4;have KP : IntKind.i64.wrap ((k : Int) + 1) = (k : Int) + 1 := IntWalk.i64_in _ (by omega);have kt : ((k : Int) + 1).toNat = k + 1 := by omega
  have y1 : (k : Int) + 1 ≤ (n : Int) := by omega
  have y2 : (k : Int) + 1 ≤ (rc : Int) := by omega
  have y0 : (0 : Int) ≤ (k : Int) + 1 := by omega
  have hOt := hO1.take_ (k := k) (by have := HN.out.1; have := HK.out.1; omega)
  have HLL := Hh (show (l.take k).length = k ∧ (l.drop (k + 1)).length = n - (k + 1) by
   rw [List.length_take, List.length_drop]; have := HN.out.1; have := HK.out.1; omega)
  have hOtd : OwnB w1.drew w.heap.size (.slice RA k rc) (l.take k) := hOt;have hb1d : Below w.heap.size w w1.drew := hb1.drew
  by_cases hck : rc = k + 1
  ·have hSd : Src w1.drew RA ((l.drop (k + 1)).map byteV) := by
    rw [List.drop_of_length_le (by have := HN.out.1; have := HRC.out.1; omega)]; exact Src.nil _ _
   have hSd' := Hh hSd;have hckT : (rc = k + 1) = True := eq_true hck;clear hck;clear hSd hOt;go_upto_region 10 with fail
   refine wp_region_ways 8 (fun _ => True) (by kernel_rfl) (trivial) (fun hHeld => ?_)
   refine TkT 0 rfl ?_
   refine TkT 1 rfl ?_
   refine TkT 2 rfl ?_
   refine TkT 3 rfl ?_
   refine TkT 4 rfl ?_
   refine TkT 5 rfl ?_
   refine TkT 6 rfl ?_
   refine To 7 rfl fun K hK => ?_
   refine wp_app_bytes (.tmp 38) (.tmp 42) rfl w.heap.size _ _ rfl hOtd RA (n - (k + 1)) _ (l.drop (k + 1)) rfl HLL.out.2.symm hSd'.out (by have := HLL.out; have := HN.out; have := HK.out.1; omega) hb1d.size fun v' w5 hO5 hg5 hat5 => ?_
   obtain ⟨S5, hS5⟩ : ∃ S5, l.take k ++ l.drop (k + 1) = S5 := ⟨_, rfl⟩
   rw [hS5] at hO5;clear hS5;have hb5 := hb1d.grown hg5 hb1d.size (fun q hq => (hOtd.lt q hq).1);obtain ⟨VA, vc, rfl, _⟩ := hO5.form;go_simp
   refine hK.out _ _ (fun _ => ?_) (fun hHeld => ?_)
   ·exact trivial
   clear hK K;have hHeld := hHeld (by decide)
   try simp only [Act.put, zz1, zz2, zz3, zz4, zz5, zz6]
   refine To 8 rfl fun K hK => ?_
   go_simp
   refine hK.out _ _ (fun h => absurd rfl h) (fun _ => ?_)
   clear hK K
   try simp only [Act.put, zz1, zz2, zz3, zz4, zz5, zz6]
   refine Ways.done (by kernel_rfl) ?_
   go_wp2_with fail
   go_ret
   exact Some_.of HH.out rfl ⟨hO5, hb5⟩
  ·have hckF : (rc = k + 1) = False := eq_false hck
   have hSd : Src w1.drew (Option.map (fun x => x.add (k + 1)) RA) ((l.drop (k + 1)).map byteV) := by
    obtain ⟨gq, cur, rfl, hbg, hBq, hkc, hset⟩ := hO1.store_ (k := k) (by have := HN.out.1; have := HK.out.1; omega)
    have h := src_sub (w := w1) (b := gq) (off := 0) (n := n - (k + 1)) (l := l) (fun j hj => by
     obtain ⟨gb, go, e1, e2⟩ := hO1.src (by intro h0; rw [List.map_eq_nil_iff] at h0; subst h0; simp at hj);injection e1 with e1; injection e1 with e1 e1'; subst e1; subst e1'
     exact e2 j _ (by simp [hj])) (k + 1) (some ⟨gq, 0 + (k + 1), none⟩) (fun _ => rfl) (by have := HN.out.1; have := HK.out.1; omega)
    rw [List.take_of_length_le (by have := HLL.out.2; omega)] at h;rw [Option.map_some, addr_add]
    exact h
   have hSd' := Hh hSd;clear hck;clear hSd hOt;go_upto_region 10 with fail
   refine wp_region_ways 8 (fun _ => True) (by kernel_rfl) (trivial) (fun hHeld => ?_)
   refine TkT 0 rfl ?_
   refine TkT 1 rfl ?_
   refine TkT 2 rfl ?_
   refine TkT 3 rfl ?_
   refine TkT 4 rfl ?_
   refine TkT 5 rfl ?_
   refine TkT 6 rfl ?_
   refine To 7 rfl fun K hK => ?_
   refine wp_app_bytes (.tmp 38) (.tmp 42) rfl w.heap.size _ _ rfl hOtd (Option.map (fun x => x.add (k + 1)) RA) (n - (k + 1)) _ (l.drop (k + 1)) rfl HLL.out.2.symm hSd'.out (by have := HLL.out; have := HN.out; have := HK.out.1; omega) hb1d.size fun v' w5 hO5 hg5 hat5 => ?_
   obtain ⟨S5, hS5⟩ : ∃ S5, l.take k ++ l.drop (k + 1) = S5 := ⟨_, rfl⟩
   rw [hS5] at hO5;clear hS5;have hb5 := hb1d.grown hg5 hb1d.size (fun q hq => (hOtd.lt q hq).1);obtain ⟨VA, vc, rfl, _⟩ := hO5.form;go_simp
   refine hK.out _ _ (fun _ => ?_) (fun hHeld => ?_)
   ·exact trivial
   clear hK K;have hHeld := hHeld (by decide)
   try simp only [Act.put, zz1, zz2, zz3, zz4, zz5, zz6]
   refine To 8 rfl fun K hK => ?_
   go_simp
   refine hK.out _ _ (fun h => absurd rfl h) (fun _ => ?_)
   clear hK K
   try simp only [Act.put, zz1, zz2, zz3, zz4, zz5, zz6]
   refine Ways.done (by kernel_rfl) ?_
   go_wp2_with fail
   go_ret
   exact Some_.of HH.out rfl ⟨hO5, hb5⟩
 ·clear hs4;have HTK := Hh (show (l.take k).length = k ∧ (l.drop k).length = n - k by rw [List.length_take, List.length_drop]; have := HN.out.1; have := HK.out.1; omega);obtain ⟨gq, cur, rfl, hbg, hBq, hkc, hset⟩ := hO1.store_ (k := k) (by have := HN.out.1; have := HK.out.1; omega)
  have HSUB : Hid (∀ W, OwnB W w.heap.size (.slice (some ⟨gq, 0, none⟩) n rc) l → Src W (some ⟨gq, 0, none⟩) ((l.take k).map byteV) ∧ Src W (some ⟨gq, k, none⟩) ((l.drop k).map byteV)) := by
   intro W hW
   have hc : ∀ j (hj : j < l.length), W.cell? ⟨gq, 0 + j, none⟩ = some (byteV l[j]) := fun j hj => by
    obtain ⟨gb, go, e1, e2⟩ := hW.src (by intro h0; rw [List.map_eq_nil_iff] at h0; subst h0; simp at hj);injection e1 with e1; injection e1 with e1 e1'; subst e1; subst e1'
    exact e2 j _ (by simp [hj])
   have h1 := src_sub (w := W) (b := gq) (off := 0) (n := k) (l := l) hc 0 (some ⟨gq, 0, none⟩) (fun _ => rfl) (by have := HN.out.1; have := HK.out.1; omega);have h2 := src_sub (w := W) (b := gq) (off := 0) (n := n - k) (l := l) hc k (some ⟨gq, k, none⟩) (fun _ => by rw [Nat.zero_add]) (by have := HN.out.1; have := HK.out.1; omega);rw [List.drop_zero] at h1;rw [List.take_of_length_le (by have := HTK.out.2; omega)] at h2
   exact ⟨h1, h2⟩
  have hknN : k ≤ n := by have := HK.out.1; omega
  have hrck : (rc = k) = False := eq_false (by have := HRC.out.1; have := HK.out.1; omega);have hOc : OwnB w1.drew w.heap.size (.slice (some ⟨gq, 0, none⟩) n rc) l := hO1;have hbx : Below w.heap.size w w1.drew := hb1.drew;clear hset hBq hkc hO1 hb1;go_upto_region 12 with fail
  refine wp_region_ways 12 (fun _ => True) (by kernel_rfl) (trivial) (fun hHeld => ?_)
  refine TkT 0 rfl ?_
  refine TkT 1 rfl ?_
  refine TkT 2 rfl ?_
  refine TkT 4 rfl ?_
  refine TkT 5 rfl ?_
  refine TkT 8 rfl ?_
  refine TkT 9 rfl ?_
  refine TkT 10 rfl ?_
  refine Ways.two (i := 3) (j := 6) rfl rfl (by kernel_rfl) (fun K hK => ?_) (fun K hK => ?_)
  ·refine wp_app_bytes (.const (.slice none 0 0)) (.tmp 48) rfl _ (.slice none 0 0) [] rfl (OwnB.nil _ _) (some ⟨gq, 0, none⟩) k rc (l.take k) rfl HTK.out.1.symm (HSUB.out _ hOc).1 (by have := HTK.out.1; have := HN.out; have := HK.out.1; simp only [List.length_nil]; omega) (Nat.le_refl _) fun v' w5 hO5 hg5 hat5 => ?_
   rw [List.nil_append] at hO5;obtain ⟨S5, hS5⟩ : ∃ S5, l.take k = S5 := ⟨_, rfl⟩
   rw [hS5] at hO5;have HS5 := Hh (show S5.length = k by rw [← hS5]; exact HTK.out.1);clear hS5;have hb5 := grown_none (by simpa [Value.ownBlock] using hg5);have hlq := (hOc.lt gq rfl).2;have hO5l := Hh (show ∀ q, v'.ownBlock = some q → gq < q from fun q hq => by have h1 := (hO5.lt q hq).1; have h2 := hlq; (try simp only [drew_heap, size_alloc] at h1 h2); omega);have hO5 := hO5.more hbx.size;have hbx := hbx.trans (hb5.mono hbx.size);have hOc := hOc.below hb5;(try have hSx := hSx.below hb5)
   obtain ⟨VA, vc, rfl, _⟩ := hO5.form;clear hg5 hat5 hb5;go_simp
   refine hK.out _ _ (fun _ => ?_) (fun hHeld => ?_)
   ·exact trivial
   clear hK K;have hHeld := hHeld (by decide)
   try simp only [Act.put, zz1, zz2, zz3, zz4, zz5, zz6]
   refine To 6 rfl fun K hK => ?_
   go_simp
   have hSx := litSrc hOc #[.int .u8 bw] 5;rw [show (#[Value.int .u8 bw] : Array Value).toList = [x].map byteV by simp [← HX.out]] at hSx;have hOc := hOc.alloc (.cells #[.int .u8 bw] 5);(try have hO5 := hO5.alloc (.cells #[.int .u8 bw] 5))
   have hbx := hbx.alloc hbx.size (.cells #[.int .u8 bw] 5)
   refine hK.out _ _ (fun _ => ?_) (fun hHeld => ?_)
   ·exact trivial
   clear hK K;have hHeld := hHeld (by decide)
   try simp only [Act.put, zz1, zz2, zz3, zz4, zz5, zz6]
   refine To 7 rfl fun K hK => ?_
   refine wp_app_bytes (.tmp 49) (.tmp 52) rfl w.heap.size _ _ rfl hO5 _ 1 _ [x] rfl rfl hSx (by have := HS5.out; have := HN.out; have := HK.out.1; simp only [List.length_singleton]; omega) hbx.size fun v' w7 hO7 hg7 hat7 => ?_
   obtain ⟨S7, hS7⟩ : ∃ S7, S5 ++ [x] = S7 := ⟨_, rfl⟩
   rw [hS7] at hO7;have HS7 := Hh (show S7.length = k + 1 by rw [← hS7, List.length_append, HS5.out]; rfl);clear hS7;have hbx := hbx.grown hg7 hbx.size (fun q hq => (hO5.lt q hq).1);have hOc7 := hOc.kept hg7 (.inr (fun e => by have := hO5l.out gq e.symm; omega));obtain ⟨VA2, vc2, rfl, _⟩ := hO7.form;go_simp
   refine hK.out _ _ (fun _ => ?_) (fun hHeld => ?_)
   ·exact trivial
   clear hK K;have hHeld := hHeld (by decide)
   try simp only [Act.put, zz1, zz2, zz3, zz4, zz5, zz6]
   refine To 11 rfl fun K hK => ?_
   refine wp_app_bytes (.tmp 53) (.tmp 56) rfl w.heap.size _ _ rfl hO7 (some ⟨gq, k, none⟩) (n - k) _ (l.drop k) rfl HTK.out.2.symm (HSUB.out _ hOc7).2 (by have := HS7.out; have := HTK.out; have := HN.out; have := HK.out.1; omega) hbx.size fun v' w8 hO8 hg8 hat8 => ?_
   obtain ⟨S8, hS8⟩ : ∃ S8, S7 ++ l.drop k = S8 := ⟨_, rfl⟩
   rw [hS8] at hO8;clear hS8;have hbx := hbx.grown hg8 hbx.size (fun q hq => (hO7.lt q hq).1);obtain ⟨VA3, vc3, rfl, _⟩ := hO8.form;go_simp
   refine hK.out _ _ (fun _ => ?_) (fun hHeld => ?_)
   ·exact trivial
   clear hK K;have hHeld := hHeld (by decide)
   try simp only [Act.put, zz1, zz2, zz3, zz4, zz5, zz6]
   refine To 12 rfl fun K hK => ?_
   go_simp
   refine hK.out _ _ (fun h => absurd rfl h) (fun _ => ?_)
   clear hK K
   try simp only [Act.put, zz1, zz2, zz3, zz4, zz5, zz6]
   refine Ways.done (by kernel_rfl) ?_
   go_wp2_with fail
   go_ret
   exact Some_.of HH.out rfl ⟨hO8, hbx⟩
  ·go_simp
   have hSx := litSrc hOc #[.int .u8 bw] 5;rw [show (#[Value.int .u8 bw] : Array Value).toList = [x].map byteV by simp [← HX.out]] at hSx;have hOc := hOc.alloc (.cells #[.int .u8 bw] 5);(try have hO5 := hO5.alloc (.cells #[.int .u8 bw] 5))
   have hbx := hbx.alloc hbx.size (.cells #[.int .u8 bw] 5)
   refine hK.out _ _ (fun _ => ?_) (fun hHeld => ?_)
   ·exact trivial
   clear hK K;have hHeld := hHeld (by decide)
   try simp only [Act.put, zz1, zz2, zz3, zz4, zz5, zz6]
   refine To 3 rfl fun K hK => ?_
   refine wp_app_bytes (.const (.slice none 0 0)) (.tmp 48) rfl _ (.slice none 0 0) [] rfl (OwnB.nil _ _) (some ⟨gq, 0, none⟩) k rc (l.take k) rfl HTK.out.1.symm (HSUB.out _ hOc).1 (by have := HTK.out.1; have := HN.out; have := HK.out.1; simp only [List.length_nil]; omega) (Nat.le_refl _) fun v' w5 hO5 hg5 hat5 => ?_
   rw [List.nil_append] at hO5;obtain ⟨S5, hS5⟩ : ∃ S5, l.take k = S5 := ⟨_, rfl⟩
   rw [hS5] at hO5;have HS5 := Hh (show S5.length = k by rw [← hS5]; exact HTK.out.1);clear hS5;have hb5 := grown_none (by simpa [Value.ownBlock] using hg5);have hlq := (hOc.lt gq rfl).2;have hO5l := Hh (show ∀ q, v'.ownBlock = some q → gq < q from fun q hq => by have h1 := (hO5.lt q hq).1; have h2 := hlq; (try simp only [drew_heap, size_alloc] at h1 h2); omega);have hO5 := hO5.more hbx.size;have hbx := hbx.trans (hb5.mono hbx.size);have hOc := hOc.below hb5;(try have hSx := hSx.below hb5)
   obtain ⟨VA, vc, rfl, _⟩ := hO5.form;clear hg5 hat5 hb5;go_simp
   refine hK.out _ _ (fun _ => ?_) (fun hHeld => ?_)
   ·exact trivial
   clear hK K;have hHeld := hHeld (by decide)
   try simp only [Act.put, zz1, zz2, zz3, zz4, zz5, zz6]
   refine To 7 rfl fun K hK => ?_
   refine wp_app_bytes (.tmp 49) (.tmp 52) rfl w.heap.size _ _ rfl hO5 _ 1 _ [x] rfl rfl hSx (by have := HS5.out; have := HN.out; have := HK.out.1; simp only [List.length_singleton]; omega) hbx.size fun v' w7 hO7 hg7 hat7 => ?_
   obtain ⟨S7, hS7⟩ : ∃ S7, S5 ++ [x] = S7 := ⟨_, rfl⟩
   rw [hS7] at hO7;have HS7 := Hh (show S7.length = k + 1 by rw [← hS7, List.length_append, HS5.out]; rfl);clear hS7;have hbx := hbx.grown hg7 hbx.size (fun q hq => (hO5.lt q hq).1);have hOc7 := hOc.kept hg7 (.inr (fun e => by have := hO5l.out gq e.symm; omega));obtain ⟨VA2, vc2, rfl, _⟩ := hO7.form;go_simp
   refine hK.out _ _ (fun _ => ?_) (fun hHeld => ?_)
   ·exact trivial
   clear hK K;have hHeld := hHeld (by decide)
   try simp only [Act.put, zz1, zz2, zz3, zz4, zz5, zz6]
   refine To 11 rfl fun K hK => ?_
   refine wp_app_bytes (.tmp 53) (.tmp 56) rfl w.heap.size _ _ rfl hO7 (some ⟨gq, k, none⟩) (n - k) _ (l.drop k) rfl HTK.out.2.symm (HSUB.out _ hOc7).2 (by have := HS7.out; have := HTK.out; have := HN.out; have := HK.out.1; omega) hbx.size fun v' w8 hO8 hg8 hat8 => ?_
   obtain ⟨S8, hS8⟩ : ∃ S8, S7 ++ l.drop k = S8 := ⟨_, rfl⟩
   rw [hS8] at hO8;clear hS8;have hbx := hbx.grown hg8 hbx.size (fun q hq => (hO7.lt q hq).1);obtain ⟨VA3, vc3, rfl, _⟩ := hO8.form;go_simp
   refine hK.out _ _ (fun _ => ?_) (fun hHeld => ?_)
   ·exact trivial
   clear hK K;have hHeld := hHeld (by decide)
   try simp only [Act.put, zz1, zz2, zz3, zz4, zz5, zz6]
   refine To 12 rfl fun K hK => ?_
   go_simp
   refine hK.out _ _ (fun h => absurd rfl h) (fun _ => ?_)
   clear hK K
   try simp only [Act.put, zz1, zz2, zz3, zz4, zz5, zz6]
   refine Ways.done (by kernel_rfl) ?_
   go_wp2_with fail
   go_ret
   exact Some_.of HH.out rfl ⟨hO8, hbx⟩
 ·clear hs4;have hOt := hO1.take_ (k := k) (by have := HN.out.1; have := HK.out.1; omega);go_wp2_with fail
  go_ret
  exact Some_.of HH.out rfl ⟨hOt, hb1⟩
theorem IsRow.srcR {w : World} {A : Option Addr} {c : Nat} {H : Snap} {ls : List (List UInt8)} (h : IsRow lieB H A c ls) (hw : Holds w H) : SrcR w A ls := fun h0 => by
 obtain ⟨b, off, e, hat⟩ := h.at_ h0
 refine ⟨b, off, e, fun j hj => ?_⟩
 obtain ⟨d, hd, hc⟩ := hat j hj;obtain ⟨Aj, cj, hd', hb⟩ := hd;subst hd';have := hw.cell (hc 0 _ rfl);rw [show off + (j * lieB.k + 0) = off + j from by show off + (j * 1 + 0) = off + j; omega] at this
 exact ⟨Aj, cj, this, Src.of_row hb.row hw⟩
end Go.Proofs.YtlebpackbfcfeaaGreatDoor
