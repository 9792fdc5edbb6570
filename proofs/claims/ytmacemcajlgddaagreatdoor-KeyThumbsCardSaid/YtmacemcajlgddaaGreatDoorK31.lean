/- squeezed. Walks: the law's example: a symmet -/
import Derived.Test.YtmacemcajlgddaaGreatDoorK29
import Derived.Test.YtmacemcajlgddaaGreatDoorK30
import Derived.Test.YtmacemcajlgddaaGreatDoorK23
import Derived.Test.YtmacemcajlgddaaGreatDoorK13
import Derived.Test.YtmacemcajlgddaaGreatDoorK17
import Derived.Test.YtmacemcajlgddaaGreatDoorK04
import Derived.Test.YtmacemcajlgddaaGreatDoorK24
import Derived.Test.YtmacemcajlgddaaGreatDoorK06
import Derived.Test.YtmacemcajlgddaaGreatDoorK20
import Derived.Test.YtmacemcajlgddaaGreatDoorK01
import Derived.Test.YtmacemcajlgddaaGreatDoorK00
set_option linter.unusedVariables false
set_option linter.unusedSimpArgs false
set_option maxRecDepth 100000
set_option maxHeartbeats 6400000
namespace Go.Proofs.YtmacemcajlgddaaGreatDoor
open Go.RowKit
theorem key_PublicSym {H : Snap} {q : Ky} {a : KAd} (hq : KeyA H q a) (hv : validK q = true) (h4 : q.kty = 4) (w : World) :
  Calls Tryz.prog 8 #[.agg (keyQ q a)] w fun e w' => e = .returned (.tuple #[.agg zeroK, .int .i64 12]) ∧ Below w.heap.size w w' := by
 have hB1 := (Blk.new w 24 (keyQ q a)).alloc (.cells zeroK 24);have hT := Blk.new (w.alloc (.cells (keyQ q a) 24)) 24 zeroK;rw [size_alloc] at hT;have hb1 := ((below_box w (.cells (keyQ q a) 24)).alloc (below_box w (.cells (keyQ q a) 24)).size (.cells zeroK 24))
 have V := Hh (fun W => key_ValidN q.kty q.crv q.alg a.ia q.kid.length a.ic a.xa q.x.length a.xc a.da q.d.length a.dc a.ka q.k.length a.kc W hq.len.1 hq.len.2);have HV := Hh hv;have c0 := hB1.cell 0 rfl;have c1 := hB1.cell 1 rfl;have c2 := hB1.cell 2 rfl;have c3 := hB1.cell 3 rfl;have c4 := hB1.cell 4 rfl;have c5 := hB1.cell 5 rfl;have c6 := hB1.cell 6 rfl;have H4 := Hh h4;clear hq hv h4;go_enter Tryz.func8, Tryz.ntmps8
 go_wp2_with fail
 refine (V.out _).mono ?_
 rintro e w3 ⟨rfl, hb3⟩
 rw [validN_eq, HV.out];replace hT := hT.below hb3;replace hB1 := hB1.below hb3;have hbz := hb1.trans (hb3.mono hb1.size);clear hb1 hb3 V c0 c1 c2 c3 c4 c5 c6;have c0 : w3.cell? ⟨w.heap.size, 0, none⟩ = some (.int .i64 4) := by rw [← H4.out]; exact hB1.cell 0 rfl
 clear hB1;go_wp2_with (with_reducible refine stop_store ?_)
 refine wpList_store_item rfl _ _ _ rfl rfl _ _ rfl rfl _ _ hT size_key rfl (one7 _ _ _ _ _ _ _ rfl rfl rfl rfl rfl rfl rfl) fun w9 hT9 hg9 => ?_
 have hb9 := hbz.grown hg9 hbz.size (by rintro k ⟨⟩; omega);go_wp2_with fail
 refine ret_row_tmp rfl rfl hT9 rfl rfl size_key rfl ?_
 exact ⟨rfl, hb9⟩
theorem Src.grown_ {w' : World} {A : Option Addr} {xs : List Value} {t : TypeId} {cs : Array Value} {w0 : World} (h : Src (w0.alloc (.cells cs t)) A xs) (hg : (w0.alloc (.cells cs t)).grownBy w' (some w0.heap.size)) (h0 : Src w0 A xs) : Src w' A xs := fun hx => by
 obtain ⟨b, off, e, hc⟩ := h hx;obtain ⟨b', off', e', hc'⟩ := h0 hx;rw [e] at e'
 cases e'
 refine ⟨b, off, e, fun j v hj => ?_⟩
 have hl := World.block_lt_of_cell? w0 _ (hc' j v hj);have hb := hg.block b (by simp; exact Nat.lt_succ_of_lt hl) (by intro e; injection e with e; subst e; exact Nat.lt_irrefl _ hl);rw [← hc j v hj]
 simp only [World.cell?, hb]
def qA : Ky := ⟨4, 0, 0, [0xaa], [], [], [1, 2]⟩
def qB : Ky := ⟨4, 0, 0, [], [], [], [1]⟩
theorem qA_enc : encB (itemK qA) = [0xa3, 0x01, 0x04, 0x02, 0x41, 0xaa, 0x20, 0x42, 0x01, 0x02] := by decide +kernel
theorem qA_valid : validK qA = true := by decide +kernel
theorem qB_valid : validK qB = true := by decide +kernel
theorem law11_awake {H : Snap} (hTab : Tabs H) (w : World) (hH : Holds w H) :
  Calls Tryz.prog 13 #[] w fun e w' => e = .returned (.bool true) ∧ Below w.heap.size w w' := by
 obtain ⟨H1, hG1, hl1, hb1⟩ := lit_bytes (Grows.refl hH) [1, 2] #[.int .u8 1, .int .u8 2] 2 rfl (by simp) rfl;obtain ⟨H2, hG2, hl2, hb2⟩ := lit_bytes hG1 [0xaa] #[.int .u8 170] 1 rfl (by simp) rfl
 have hkA : KeyA H2 qA ⟨some ⟨(w.alloc (.cells #[.int .u8 1, .int .u8 2] 5)).heap.size, 0, none⟩, 1, none, 0, none, 0, some ⟨w.heap.size, 0, none⟩, 2⟩ :=
  ⟨by simp [qA], by simp [qA], by simp [qA], hb2, IsBytes.nil _, IsBytes.nil _, hb1.mono hl2⟩
 rw [size_alloc] at hkA;have EN := Hh (key_Encode (hTab.mono hG2.le) hkA _ hG2.holds);clear hkA hb1 hb2 hl1 hl2 hG1;have HT := Hh hTab;have HG2 := Hh hG2;clear hTab hH hG2;go_enter Tryz.func13, Tryz.ntmps13
 go_wp2_with fail
 refine EN.out.mono ?_
 rintro e w3 ⟨r3, l3, rfl, hf3, hl3⟩
 rw [if_pos qA_valid, qA_enc] at hl3;subst hl3;obtain ⟨A3, c3, rfl, hjk⟩ := hf3.own.form;clear hjk;have hG3 := HG2.out.below_ hf3.2;have hs3 := hf3.own.src;have hcA : codeK qA = 0 := by rw [codeK, if_pos qA_valid]
 rw [hcA];clear hcA EN HG2 hf3;obtain ⟨H4, hG4, hl4, hb4⟩ := lit_bytes hG3 [1] #[.int .u8 1] 1 rfl (by simp) rfl
 have hkB : KeyA H4 qB ⟨none, 0, none, 0, none, 0, some ⟨w3.heap.size, 0, none⟩, 1⟩ :=
  ⟨by simp [qB], by simp [qB], by simp [qB], IsBytes.nil _, IsBytes.nil _, IsBytes.nil _, hb4⟩
 have PB := Hh (key_PublicSym hkB qB_valid rfl (w3.alloc (.cells #[.int .u8 1] 5)));replace hs3 := hs3.alloc (.cells #[.int .u8 1] 5);have hb4w := hG4.below;clear hG3 hG4 hl4 hb4 hkB;go_wp2_with fail
 refine PB.out.mono ?_
 rintro e w5 ⟨rfl, hb5⟩
 replace hs3 := hs3.below hb5;have hb6 := hb4w.trans (hb5.mono hb4w.size);clear PB hb5 hb4w;go_wp2_with (with_reducible refine stop_store ?_)
 unfold Stopped
 have hKB := Blk.new w5 24 zeroK;have hb7 := hb6.alloc hb6.size (.cells zeroK 24);have hs4 := hs3.alloc (.cells zeroK 24)
 refine wpList_store_item rfl _ _ _ rfl rfl _ _ rfl rfl _ _ hKB size_key rfl (one7 _ _ _ _ _ _ _ rfl rfl rfl rfl rfl rfl rfl) fun w9 hT9 hg9 => ?_
 have hb9 := hb7.grown hg9 hb7.size (by rintro k ⟨⟩; exact hb6.size);have k1 := conv_bytes (Src.grown_ (w0 := w5) (t := 24) (cs := zeroK) hs4 hg9 hs3) 10 c3 rfl;clear hKB hb7 hs3 hs4 hT9 hg9 hb6;go_wp2_with fail
 go_ret
 exact ⟨rfl, hb9⟩
theorem Ways.three {P : Program} {ops : Array Oper} {Q : Exit → Act → World → Prop} {md : Region.Mode} {S : World → Prop} {z : Nat} {i j l : Nat} {o o' o2 : Oper} {n : Nat} {L : Array Bool} {a : Act} {w : World} (hi : ops[i]? = some o) (hj : ops[j]? = some o') (hl : ops[l]? = some o2) (hr : Region.ready md ops L = [i, j, l])
  (h : ∀ K : Act → World → Prop, Shut (∀ a w, (i ≠ z → S w) → ((i ≠ z → S w) → Ways P md ops Q S z n (L.setIfInBounds i true) a w) → K a w) →
   if Region.wanted o (yielded ops a.tmps) = true then Oper.wp P o a w K Q else K (a.put o.dst undef) w)
  (h' : ∀ K : Act → World → Prop, Shut (∀ a w, (j ≠ z → S w) → ((j ≠ z → S w) → Ways P md ops Q S z n (L.setIfInBounds j true) a w) → K a w) →
   if Region.wanted o' (yielded ops a.tmps) = true then Oper.wp P o' a w K Q else K (a.put o'.dst undef) w)
  (h2 : ∀ K : Act → World → Prop, Shut (∀ a w, (l ≠ z → S w) → ((l ≠ z → S w) → Ways P md ops Q S z n (L.setIfInBounds l true) a w) → K a w) →
   if Region.wanted o2 (yielded ops a.tmps) = true then Oper.wp P o2 a w K Q else K (a.put o2.dst undef) w) : Ways P md ops Q S z (n + 1) L a w := by
 refine ⟨fun h0 => (by rw [hr] at h0; cases h0), fun k hk => ?_⟩
 rw [hr] at hk
 rcases (by simpa using hk : k = i ∨ k = j ∨ k = l) with hk | hk | hk
 ·subst hk
  exact wpOp_step hi fun K hK => h K fun a w hS hW => hK a w ⟨hS, hW hS⟩
 ·subst hk
  exact wpOp_step hj fun K hK => h' K fun a w hS hW => hK a w ⟨hS, hW hS⟩
 ·subst hk
  exact wpOp_step hl fun K hK => h2 K fun a w hS hW => hK a w ⟨hS, hW hS⟩
theorem byte_mod (v : Int) : ∃ x : UInt8, Value.int .u8 (v % 256) = byteV x := by
 obtain ⟨x, hx⟩ := byte_wrap v
 exact ⟨x, by rw [← hx, IntKind.wrap_u8]⟩
theorem mk_Some (q : Int) {n : Nat} (hn : n ≤ 128) (w : World) :
  Calls Tryz.prog 19 #[.int .i64 q, .int .i64 (n : Int)] w fun e w' => ∃ A c l, e = .returned (.slice A n c) ∧ l.length = n ∧ Fresh w l (.slice A n c) w' := by
 have hb1 := Below.refl w.heap.size w;go_enter Tryz.func19, Tryz.ntmps19
 go_wp2_with fail
 go_loopw [5, 8] (fun v3 v5 wr => ∃ (k : Nat) (VA : Option Addr) (vc vn : Nat) (l : List UInt8), k ≤ n ∧ v5 = .int .i64 (k : Int) ∧ v3 = .slice VA vn vc ∧ vn = k ∧ l.length = k ∧ OwnB wr w.heap.size (.slice VA vn vc) l ∧ Below w.heap.size w wr) (fun _ v5 _ => n - (intOf v5).toNat)
 case atStart => exact ⟨0, none, 0, 0, [], by omega, rfl, rfl, rfl, rfl, OwnB.nil _ _, hb1⟩
 case round =>
  clear hb1;obtain ⟨k, VA, vc, vn, l, hk, rfl, rfl, hvn, hlk, hOr, hbr⟩ := hrel;have HK := Hh hk;have HV := Hh (And.intro hvn hlk);clear hk hvn hlk
  by_cases hlt : k < n
  ·have hki : (k : Int) < (n : Int) := by omega
   have hkd : decide ((k : Int) < (n : Int)) = true := decide_eq_true hki;have hkn : decide (k < n) = true := decide_eq_true hlt;have HLT := Hh hlt;go_wp2_with (at_builtin; refine stop_in ?_)
   unfold Stopped
   generalize IntKind.u64.wrap q / 2 ^ (8 * (k % 8)) + (k : Int) / 8 = v0
   obtain ⟨x, hx⟩ : ∃ x : UInt8, Value.int .u8 (v0 % 256) = byteV x := byte_mod _;have HC : Hid ((#[.int .u8 (v0 % 256)] : Array Value).toList = [x].map byteV) := by simp [Hid, ← hx]
   have hO1 := hOr.alloc (.cells #[.int .u8 (v0 % 256)] 5);have hb2 := hbr.alloc hbr.size (.cells #[.int .u8 (v0 % 256)] 5)
   refine wpList_app_bytes rfl (.tmp 11) (.tmp 24) rfl w.heap.size (.slice VA vn vc) l rfl hO1 _ 1 _ [x] rfl rfl (Src.new _ _ _ _ rfl _ HC.out) (by have := HV.out; have := HK.out; simp; omega) hb2.size fun v' w7 hO7 hg7 hat7 => ?_
   have hb7 := hb2.grown hg7 hb2.size (fun q hq => (hO1.lt q hq).1);obtain ⟨VA', vc', rfl, hjunk⟩ := hO7.form;clear hjunk hg7 hat7 hx hO1 hb2 hOr hbr;obtain ⟨m, hm⟩ : ∃ m, l ++ [x] = m := ⟨_, rfl⟩
   have HM : Hid (m.length = k + 1) := by have := HV.out; rw [Hid, ← hm, List.length_append]; simp; omega
   rw [hm] at hO7 ⊢;clear hm;go_wp2_with fail
   go_roundw
   case rel => exact ⟨k + 1, VA', vc', _, m, by have := HLT.out; omega, by go_num, rfl, HM.out, HM.out, hO7, hb7⟩
   case measure => have := HLT.out; simp [intOf]; omega
  ·have hki : ¬ ((k : Int) < (n : Int)) := by omega
   have hkd : decide ((k : Int) < (n : Int)) = false := decide_eq_false hki;have hkn : decide (k < n) = false := decide_eq_false hlt;obtain rfl : vn = n := by have := HV.out; have := HK.out; omega
   have HL : Hid (l.length = vn) := by have := HV.out; rw [Hid]; omega
   clear hlt;go_wp2_with fail
   go_ret
   exact ⟨VA, vc, rfl, l, HL.out, hOr, hbr⟩
end Go.Proofs.YtmacemcajlgddaaGreatDoor
