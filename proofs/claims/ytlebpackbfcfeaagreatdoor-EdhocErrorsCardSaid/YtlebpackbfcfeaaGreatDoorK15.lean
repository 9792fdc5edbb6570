/- squeezed. Walks: the deck's bytes. Walks: th -/
import Derived.Test.YtlebpackbfcfeaaGreatDoorK12
import Derived.Test.YtlebpackbfcfeaaGreatDoorK02
import Derived.Test.YtlebpackbfcfeaaGreatDoorK08
import Derived.Test.YtlebpackbfcfeaaGreatDoorK01
set_option linter.unusedVariables false
set_option linter.unusedSimpArgs false
set_option maxRecDepth 100000
set_option maxHeartbeats 3200000
namespace Go.Proofs.YtlebpackbfcfeaaGreatDoor
open Go.RowKit
section
variable {w w' w'' : World} {H H' H'' : Snap} {g : Nat}
theorem GrowsBut.refl (hH : Holds w H) (g : Nat) : GrowsBut w H w H g := ⟨grown_refl w _, Snap.le.refl _, hH, fun _ _ h => .inl h⟩
theorem GrowsBut.trans (h : GrowsBut w H w' H' g) (k : GrowsBut w' H' w'' H'' g) : GrowsBut w H w'' H'' g :=
 ⟨grown_step h.grown k.grown (.inl rfl), h.le.trans k.le, k.holds, fun b o hb => by
  rcases k.fresh b o hb with h1 | h1
  ·exact h.fresh b o h1
  ·exact .inr (Nat.le_trans h.grown.size h1)⟩
theorem Grows.but (h : Grows w H w' H') (g : Nat) : GrowsBut w H w' H' g := ⟨grown_of_below h.below _, h.le, h.holds, h.fresh⟩
theorem GrowsBut.hid (h : GrowsBut w H w' H' g) {k : Nat} (hk : H k = .none) (hl : k < w.heap.size) : H' k = .none := by
 cases hH : H' k with
 | none => rfl
 | some o =>
  rcases h.fresh k o hH with hx | hx
  ·rw [hk] at hx; cases hx
  ·omega
structure DeckIn (w : World) (g : Nat) (H : Snap) : Prop where
 deck : Deck w g H
 holds : Holds w H
 apart : H g = .none
structure Dealt (w : World) (H : Snap) (w' : World) (H' : Snap) (g : Nat) : Prop where
 grows : GrowsBut w H w' H' g
 deck : DeckIn w' g H'
theorem Dealt.trans (h : Dealt w H w' H' g) (k : Dealt w' H' w'' H'' g) : Dealt w H w'' H'' g := ⟨h.grows.trans k.grows, k.deck⟩
theorem DeckIn.grows (h : DeckIn w g H) (k : Grows w H w' H') : Dealt w H w' H' g :=
 ⟨k.but g, ⟨(h.deck.below k.below).mono k.le, k.holds, k.none h.apart h.deck.lt⟩⟩
theorem Dealt.grown (h : Dealt w H w' H' g) (k : Grows w' H' w'' H'') : Dealt w H w'' H'' g := h.trans (h.deck.grows k)
theorem Dealt.alloc (h : Dealt w H w' H' g) (o : Obj) : Dealt w H (w'.alloc o) H' g := h.grown ((Grows.refl h.deck.holds).alloc o)
theorem DeckIn.alloc (h : DeckIn w g H) (o : Obj) : DeckIn (w.alloc o) g H := (h.grows ((Grows.refl h.holds).alloc o)).deck
theorem Dealt.le (h : Dealt w H w' H' g) : H.le H' := h.grows.le
theorem Dealt.holds (h : Dealt w H w' H' g) : Holds w' H' := h.deck.holds
theorem Dealt.size (h : Dealt w H w' H' g) : w.heap.size ≤ w'.heap.size := h.grows.grown.size
theorem Dealt.hid (h : Dealt w H w' H' g) {k : Nat} (hk : H k = .none) (hl : k < w.heap.size) : H' k = .none := h.grows.hid hk hl
theorem Dealt.grownRow {row : Option Nat} (h : Dealt w H w' H' g) (h0 : ∀ k, row = some k → H' k = .none) (hw : ∀ k, row = some k → w.heap.size ≤ k) (hlt : g < w.heap.size) (hg : w'.grownBy w'' row) : Dealt w H w'' H' g := by
 have hd := h.deck;have hne : row ≠ some g := fun e => by have := hw g e; omega
 refine ⟨⟨?_, h.le, h.holds.grown hg h0, h.grows.fresh⟩, ?_, h.holds.grown hg h0, hd.apart⟩
 ·exact ⟨hg.os.trans h.grows.grown.os, hg.tape.trans h.grows.grown.tape, hg.output.trans h.grows.grown.output, Nat.le_trans h.size hg.size, fun i hi hne' =>
   (hg.block i (Nat.lt_of_lt_of_le hi h.size) (fun e => by have := hw i e.symm; omega)).trans (h.grows.grown.block i hi hne')⟩
 ·obtain ⟨A, c, l, k, h1, h2, h3⟩ := hd.deck
  exact ⟨A, c, l, k, h1.grown hg hne, h2, h3⟩
theorem Blk.dealt {k : Nat} {t : TypeId} {cs : Array Value} (h : Blk w k t cs) (hd : Dealt w H w' H' g) (hk : k ≠ g) : Blk w' k t cs :=
 h.grown hd.grows.grown (by intro e; injection e with e; exact hk e.symm)
theorem OwnB.dealt {base : Nat} {v : Value} {l : List UInt8} (h : OwnB w base v l) (hd : Dealt w H w' H' g) (hb : g < base) : OwnB w' base v l := by
 refine h.kept hd.grows.grown ?_
 cases hv : v.ownBlock with
 | none => exact .inl rfl
 | some k => exact .inr (fun e => by injection e with e; have := h.lt k hv; omega)
theorem OwnI.dealt {base : Nat} {v : Value} {K : Snap} {l : List Itm} (h : OwnI w base v K l) (hd : Dealt w H w' H' g) (hb : g < base) : OwnI w' base v K l := by
 refine h.kept hd.grows.grown ?_
 cases hv : v.ownBlock with
 | none => exact .inl rfl
 | some k => exact .inr (fun e => by injection e with e; have := h.lt k hv; omega)
end
theorem deck_Next {H : Snap} {g : Nat} (w : World) (hD : DeckIn w g H) (n : Int) (hn : 0 < n) (hn2 : n ≤ 1099511627776) :
  Calls Tryz.prog 18 #[.pointer (some ⟨g, 0, none⟩), .int .i64 n] w fun e w' => ∃ r : Nat, e = .returned (.int .i64 (r : Int)) ∧ (r : Int) < n ∧ Dealt w H w' H g := by
 refine (mk_Next w hD.deck hD.holds hD.apart n hn hn2).mono ?_
 rintro e w' ⟨r, rfl, h0, h1, h2, h3⟩
 obtain ⟨k, rfl⟩ := Int.eq_ofNat_of_zero_le h0;have hH := hD.holds.grown h3 (by rintro q ⟨⟩; exact hD.apart)
 exact ⟨k, rfl, h1, ⟨h3, Snap.le.refl _, hH, fun _ _ h => .inl h⟩, h2, hH, hD.apart⟩
theorem mk_Bytes {H : Snap} {g : Nat} (w : World) (hD : DeckIn w g H) (n : Int) (hn : 0 ≤ n) (hn2 : n ≤ 1048576) :
  Calls Tryz.prog 21 #[.pointer (some ⟨g, 0, none⟩), .int .i64 n] w fun e w' =>
   ∃ A c l, e = .returned (.slice A l.length c) ∧ (l.length : Int) ≤ n ∧ ∃ H', IsBytes H' A c l ∧ Dealt w H w' H' g := by
 have NX := Hh (deck_Next w hD (n + 1) (by omega) (by omega));have K0 : IntKind.i64.wrap (n + 1) = n + 1 := IntWalk.i64_in _ (by omega);have hgl := hD.deck.lt;have HN := Hh (And.intro hn hn2);have HD := Hh hD;clear hn hn2 hD;go_enter Tryz.func21, Tryz.ntmps21
 go_wp2_with fail
 refine NX.out.mono ?_
 rintro e w1 ⟨r, rfl, hr, hd1⟩
 have hO1 := OwnB.nil w1 w.heap.size;go_wp2_with fail
 go_loopw [5, 6] (fun v5 v6 wr => ∃ (k : Nat) (VA : Option Addr) (vc vn : Nat) (l : List UInt8), v6 = .int .i64 (k : Int) ∧ v5 = .slice VA vn vc ∧ OwnB wr w.heap.size (.slice VA vn vc) l ∧ vn = l.length ∧ (l.length : Int) + k ≤ n ∧ Dealt w H wr H g ∧ (∀ q, (Value.slice VA vn vc).ownBlock = some q → H q = none)) (fun _ v6 _ => (intOf v6).toNat)
 case atStart => exact ⟨r, _, _, _, _, rfl, rfl, hO1, rfl, by simp; omega, hd1, by intro q hq; simp [Value.ownBlock] at hq⟩
 case round =>
  obtain ⟨k, VA, vc, vn, l, rfl, rfl, hOr, hvn, hlk, hdr, hnr⟩ := hrel;have HV := Hh hvn;have HLK := Hh hlk;clear hvn hlk
  by_cases hlt : (0 : Int) < (k : Int)
  ·have NX := Hh (deck_Next wr hdr.deck 256 (by omega) (by omega));go_wp2_with fail
   refine NX.out.mono ?_
   rintro e w2 ⟨q, rfl, hq, hd2⟩
   have hd := hdr.trans hd2;have hO2 := hOr.dealt hd2 hgl;have K1 : IntKind.u8.wrap (q : Int) = (q : Int) := IntWalk.u8_in _ (by omega);have hO3 := hO2.alloc (.cells #[.int .u8 (q : Int)] 5);have hd3 := hd.alloc (.cells #[.int .u8 (q : Int)] 5)
   have HC : Hid ((#[.int .u8 (q : Int)] : Array Value).toList = [u8 q].map byteV) := by
    simp only [Hid, List.map_cons, List.map_nil, byteV_u8]
    congr 2
    omega
   have hk1 : (-9223372036854775808 : Int) ≤ (k : Int) - 1 ∧ (k : Int) - 1 ≤ 9223372036854775807 := by have := HLK.out; have := HN.out; omega
   clear hq NX hdr hOr hd2 hO2 hd;go_wp2_with (at_builtin; refine stop_in ?_)
   unfold Stopped
   obtain rfl := HV.out
   refine wpList_app_bytes rfl (.tmp 15) (.tmp 19) rfl w.heap.size (.slice VA l.length vc) _ rfl hO3 _ 1 _ [u8 q] rfl rfl (Src.new _ _ _ _ rfl _ HC.out) (by have := HLK.out; have := HN.out; simp; omega) hd3.size fun v' w7 hO7 hg7 hat7 => ?_
   obtain ⟨VA', vc', rfl, _⟩ := hO7.form;have hd7 := hd3.grownRow hnr (fun q hq => (hO3.lt q hq).1) hgl hg7
   have hn7 : ∀ q', (Value.slice VA' (l ++ [u8 q]).length vc').ownBlock = some q' → H q' = none := fun q' hq' => by
    rcases hat7 with h | ⟨g', h1, h2⟩
    ·exact hnr q' (by rw [← h, hq'])
    ·rw [hq'] at h1;injection h1 with h1
     subst h1
     exact hd3.holds.none_of_ge h2
   have hl9 : (l ++ [u8 q]).length = l.length + 1 := by simp
   rw [hl9] at hO7 hn7;rw [hl9];clear hl9;have hk2 : IntKind.i64.wrap ((k : Int) - 1) = (k : Int) - 1 := IntWalk.i64_in _ hk1;clear hO3 hg7 hat7 hd3 hk1;go_wp2_with fail
   go_roundw
   case rel => exact ⟨k - 1, VA', vc', _, _, by rw [show ((k - 1 : Nat) : Int) = (k : Int) - 1 by omega], rfl, hO7, by simp, by have := HLK.out; simp; omega, hd7, hn7⟩
   case measure => simp [intOf]; omega
  ·go_wp2_with fail
   obtain rfl := HV.out;obtain ⟨H', hl8, hh8, hf8, hz8, hi8⟩ := hOr.snap hdr.holds (fun q hq => hnr q (by cases VA <;> simp_all [Value.ownBlock]));have hG : Grows wr H wr H' → True := fun _ => trivial
   go_ret
   refine ⟨VA, vc, l, rfl, by have := HLK.out; omega, H', hi8, ⟨⟨hdr.grows.grown, hl8, hh8, fun b o hb => ?_⟩, hdr.deck.deck.mono hl8, hh8, ?_⟩⟩
   ·rcases hf8 b o hb with h | h
    ·exact .inl h
    ·exact .inr (hOr.lt b (by cases VA <;> simp_all [Value.ownBlock])).1
   ·cases hH : H' g with
    | none => rfl
    | some o =>
     rcases hf8 g o hH with h | h
     ·rw [HD.out.apart] at h; cases h
     ·have := (hOr.lt g (by cases VA <;> simp_all [Value.ownBlock])).1
      omega
def isU64 : Value → Bool | .int .u64 x => decide (0 ≤ x) && decide (x < 18446744073709551616) | _ => false
def isStr3 : Value → Bool | .string s => decide (s.size ≤ 3) | _ => false
theorem isU64_spec {v : Value} (h : isU64 v = true) : ∃ n : Nat, v = .int .u64 (n : Int) ∧ n < 18446744073709551616 := by
 unfold isU64 at h
 split at h
 ·rename_i x
  rw [Bool.and_eq_true, decide_eq_true_eq, decide_eq_true_eq] at h;obtain ⟨n, rfl⟩ := Int.eq_ofNat_of_zero_le h.1
  exact ⟨n, rfl, by omega⟩
 ·cases h
theorem isStr3_spec {v : Value} (h : isStr3 v = true) : ∃ s : ByteArray, v = .string s ∧ s.size ≤ 3 := by
 unfold isStr3 at h
 split at h
 ·rename_i x
  exact ⟨x, rfl, of_decide_eq_true h⟩
 ·cases h
theorem Blk.pick {w : World} {g : Nat} {t : TypeId} {cs : Array Value} (h : Blk w g t cs) (P : Value → Bool) (hall : cs.all P = true) (k : Nat) (hk : k < cs.size) : ∃ v, w.cell? ⟨g, k, none⟩ = some v ∧ P v = true :=
 ⟨cs[k], h.cell k (Array.getElem?_eq_getElem hk), by rw [Array.all_eq_true] at hall; exact hall k hk⟩
theorem mk_Text {H : Snap} {g : Nat} (w : World) (hD : DeckIn w g H) (n : Int) (hn : 0 ≤ n) (hn2 : n ≤ 1048576) :
  Calls Tryz.prog 23 #[.pointer (some ⟨g, 0, none⟩), .int .i64 n] w fun e w' =>
   ∃ s : ByteArray, e = .returned (.string s) ∧ (s.size : Int) ≤ 3 * n ∧ Dealt w H w' H g := by
 have NX := Hh (deck_Next w hD (n + 1) (by omega) (by omega));have K0 : IntKind.i64.wrap (n + 1) = n + 1 := IntWalk.i64_in _ (by omega);have hgl := hD.deck.lt;have HN := Hh (And.intro hn hn2);have HD := Hh hD;clear hn hn2 hD;go_enter Tryz.func23, Tryz.ntmps23
 go_wp2_with fail
 refine NX.out.mono ?_
 rintro e w1 ⟨r, rfl, hr, hd1⟩
 go_wp2_with fail
 go_loopw [5, 6] (fun v5 v6 wr => ∃ (k : Nat) (s : ByteArray), v6 = .int .i64 (k : Int) ∧ v5 = .string s ∧ (s.size : Int) + 3 * k ≤ 3 * n ∧ Dealt w H wr H g) (fun _ v6 _ => (intOf v6).toNat)
 case atStart => exact ⟨r, ⟨#[]⟩, rfl, rfl, by rw [show (⟨#[]⟩ : ByteArray).size = 0 from rfl]; omega, hd1⟩
 case round =>
  obtain ⟨k, s, rfl, rfl, hlk, hdr⟩ := hrel;have HLK := Hh hlk;clear hlk
  by_cases hlt : (0 : Int) < (k : Int)
  ·have hB := Blk.new wr 9 #[.string ⟨#[97]⟩, .string ⟨#[98]⟩, .string ⟨#[47]⟩, .string ⟨#[34]⟩, .string ⟨#[92]⟩, .string ⟨#[10]⟩, .string ⟨#[127]⟩, .string ⟨#[37]⟩, .string ⟨#[195, 169]⟩, .string ⟨#[226, 130, 172]⟩];have hd2 := hdr.alloc (.cells #[.string ⟨#[97]⟩, .string ⟨#[98]⟩, .string ⟨#[47]⟩, .string ⟨#[34]⟩, .string ⟨#[92]⟩, .string ⟨#[10]⟩, .string ⟨#[127]⟩, .string ⟨#[37]⟩, .string ⟨#[195, 169]⟩, .string ⟨#[226, 130, 172]⟩] 9);have NX := Hh (deck_Next _ hd2.deck 10 (by omega) (by omega));go_wp2_with fail
   refine NX.out.mono ?_
   rintro e w3 ⟨q, rfl, hq, hd3⟩
   have hB3 := hB.dealt hd3 (by have := hdr.size; omega);obtain ⟨v, hc, hP⟩ := hB3.pick isStr3 (by kernel_rfl) q (by simp; omega);obtain ⟨t, rfl, ht⟩ := isStr3_spec hP;have hd := hd2.trans hd3;have hq0 : (q : Int) < 10 := hq;have HK := Hh ht;have hk2 : IntKind.i64.wrap ((k : Int) - 1) = (k : Int) - 1 := IntWalk.i64_in _ (by have := HLK.out; have := HN.out; omega);have hst : s.size + t.size ≤ 9223372036854775807 := by have := HLK.out; have := HN.out; omega
   clear NX hB hB3 hP hd2 hd3 ht;go_wp2_with fail
   go_roundw
   case rel => exact ⟨k - 1, _, by rw [show ((k - 1 : Nat) : Int) = (k : Int) - 1 by omega], rfl, by have := HLK.out; have := HK.out; simp [ByteArray.size_append]; omega, hd⟩
   case measure => simp [intOf]; omega
  ·go_wp2_with fail
   go_ret
   exact ⟨s, rfl, by have := HLK.out; omega, hdr⟩
theorem mk_Number {H : Snap} {g : Nat} (w : World) (hD : DeckIn w g H) :
  Calls Tryz.prog 19 #[.pointer (some ⟨g, 0, none⟩)] w fun e w' =>
   ∃ n : Nat, e = .returned (.int .u64 (n : Int)) ∧ n < 18446744073709551616 ∧ Dealt w H w' H g := by
 have NX := Hh (deck_Next w hD 6 (by omega) (by omega));have hgl := hD.deck.lt;clear hD;go_enter Tryz.func19, Tryz.ntmps19
 go_wp2_with fail
 refine NX.out.mono ?_
 rintro e w1 ⟨r, rfl, hr, hd1⟩
 by_cases h0 : r = 0
 ·subst h0;have hB := Blk.new w1 28 #[.int .u64 23, .int .u64 24, .int .u64 255, .int .u64 256, .int .u64 65535, .int .u64 65536, .int .u64 4294967295, .int .u64 4294967296, .int .u64 18446744073709551615];have hd2 := hd1.alloc (.cells #[.int .u64 23, .int .u64 24, .int .u64 255, .int .u64 256, .int .u64 65535, .int .u64 65536, .int .u64 4294967295, .int .u64 4294967296, .int .u64 18446744073709551615] 28);have NX := Hh (deck_Next _ hd2.deck 9 (by omega) (by omega));go_wp2_with fail
  refine NX.out.mono ?_
  rintro e w3 ⟨q, rfl, hq, hd3⟩
  have hB3 := hB.dealt hd3 (by have := hd1.size; omega);obtain ⟨v, hc, hP⟩ := hB3.pick isU64 (by kernel_rfl) q (by simp; omega);obtain ⟨x, rfl, hx⟩ := isU64_spec hP;have hd := hd2.trans hd3;have HX := Hh hx;clear NX hB hB3 hP hd2 hd3 hx;go_wp2_with fail
  go_ret
  exact ⟨x, rfl, HX.out, hd⟩
 by_cases h1 : r = 1
 ·subst h1;have N2 := Hh (deck_Next w1 hd1.deck 1073741824 (by omega) (by omega));go_wp2_with fail
  refine N2.out.mono ?_
  rintro e w2 ⟨q, rfl, hq, hd2⟩
  have K1 : IntKind.u64.wrap (q : Int) = (q : Int) := IntWalk.u64_in _ (by omega);go_wp2_with fail
  go_ret
  exact ⟨q, rfl, by omega, hd1.trans hd2⟩
 ·have b0 : ((r : Int) == 0) = false := by rw [beq_eq_false_iff_ne]; omega
  have b1 : ((r : Int) == 1) = false := by rw [beq_eq_false_iff_ne]; omega
  have N2 := Hh (deck_Next w1 hd1.deck 30 (by omega) (by omega));clear h0 h1;go_wp2_with fail
  refine N2.out.mono ?_
  rintro e w2 ⟨q, rfl, hq, hd2⟩
  have K1 : IntKind.u64.wrap (q : Int) = (q : Int) := IntWalk.u64_in _ (by omega);go_wp2_with fail
  go_ret
  exact ⟨q, rfl, by omega, hd1.trans hd2⟩
theorem u64_ret (x : Int) : ∃ n : Nat, Ending.returned (Value.int .u64 (IntKind.u64.wrap x)) = .returned (.int .u64 (n : Int)) ∧ n < 18446744073709551616 := by
 refine ⟨(IntKind.u64.wrap x).toNat, ?_, ?_⟩
 ·rw [Int.toNat_of_nonneg (by rw [IntKind.wrap_u64]; omega)]
 ·rw [IntKind.wrap_u64]; omega
theorem bits_ret (op : BinOp) (a b : Int) : ∃ n : Nat, Ending.returned (Value.int .u64 (bits op .u64 a b)) = .returned (.int .u64 (n : Int)) ∧ n < 18446744073709551616 := u64_ret _
def WidenSaid (w : World) (e : Ending) (w' : World) : Prop := (∃ n : Nat, e = .returned (.int .u64 (n : Int)) ∧ n < 18446744073709551616) ∧ w' = w
theorem ref_Widen5 (v : Nat) (hv : v < 18446744073709551616) (w : World) :
  Calls Tryz.prog 51 #[.int .u64 (v : Int), .int .i64 5, .int .i64 10] w (WidenSaid w) := by
 have A2 : bits .and .u64 (v : Int) 1023 = ((v % 1024 : Nat) : Int) := and_mod v 10 (by omega) (by omega);have hM : v % 1024 ≤ 1023 := by omega
 generalize v % 1024 = M at *
 have hz : ¬ ((0 : Int) < bits .and .u64 (v : Int) 1023 / 2048) := by rw [A2]; omega
 have HZ := Hh hz;clear A2 hM hz;go_enter Tryz.func51, Tryz.ntmps51
 go_wp2_with fail
 ·go_ret; exact ⟨bits_ret .., rfl⟩
 ·go_ret; exact ⟨u64_ret .., rfl⟩
 ·go_loop [12] (fun v12 => ∃ k : Nat, k ≤ 10 ∧ v12 = .int .i64 (k : Int)) (fun v12 => 10 - (intOf v12).toNat)
  case atStart => exact ⟨0, by omega, rfl⟩
  case round =>
   obtain ⟨k, hk, rfl⟩ := hrel
   rcases (by omega : k ≤ 9 ∨ k = 10) with h | rfl
   ·have hk1 : (k : Int) + 1 ≤ 10 := by omega
    have hk2 : (0 : Int) ≤ (k : Int) + 1 := by omega
    have hk3 : ((k : Int) + 1).toNat = k + 1 := by omega
    go_wp2_with fail
    ·go_round
     case rel => exact ⟨k + 1, by omega, by go_num⟩
     case measure => simp [intOf]; omega
    ·go_ret; exact ⟨bits_ret .., rfl⟩
   ·have hz := HZ.out;go_wp2_with fail
    go_ret; exact ⟨bits_ret .., rfl⟩
 ·go_ret; exact ⟨bits_ret .., rfl⟩
theorem ref_Widen8 (v : Nat) (hv : v < 18446744073709551616) (w : World) :
  Calls Tryz.prog 51 #[.int .u64 (v : Int), .int .i64 8, .int .i64 23] w (WidenSaid w) := by
 have A2 : bits .and .u64 (v : Int) 8388607 = ((v % 8388608 : Nat) : Int) := and_mod v 23 (by omega) (by omega);have hM : v % 8388608 ≤ 8388607 := by omega
 generalize v % 8388608 = M at *
 have hz : ¬ ((0 : Int) < bits .and .u64 (v : Int) 8388607 / 16777216) := by rw [A2]; omega
 have HZ := Hh hz;clear A2 hM hz;go_enter Tryz.func51, Tryz.ntmps51
 go_wp2_with fail
 ·go_ret; exact ⟨bits_ret .., rfl⟩
 ·go_ret; exact ⟨u64_ret .., rfl⟩
 ·go_loop [12] (fun v12 => ∃ k : Nat, k ≤ 23 ∧ v12 = .int .i64 (k : Int)) (fun v12 => 23 - (intOf v12).toNat)
  case atStart => exact ⟨0, by omega, rfl⟩
  case round =>
   obtain ⟨k, hk, rfl⟩ := hrel
   rcases (by omega : k ≤ 22 ∨ k = 23) with h | rfl
   ·have hk1 : (k : Int) + 1 ≤ 23 := by omega
    have hk2 : (0 : Int) ≤ (k : Int) + 1 := by omega
    have hk3 : ((k : Int) + 1).toNat = k + 1 := by omega
    go_wp2_with fail
    ·go_round
     case rel => exact ⟨k + 1, by omega, by go_num⟩
     case measure => simp [intOf]; omega
    ·go_ret; exact ⟨bits_ret .., rfl⟩
   ·have hz := HZ.out;go_wp2_with fail
    go_ret; exact ⟨bits_ret .., rfl⟩
 ·go_ret; exact ⟨bits_ret .., rfl⟩
abbrev Chk (w : World) (g : Nat) (i s : Int) : Prop := Blk w g 109 #[.int .i64 i, .int .i64 s]
theorem spend_float {H : Snap} {x : Itm} {ba : Option Addr} {bc : Nat} {ia : Option Addr} {ic : Nat} (hx : IsItem H ba bc ia ic x) (w : World) (g : Nat) (i s : Int) (hc : Chk w g i s) (h8 : x.kind = 8) (hs0 : 0 ≤ s) (hs1 : s ≤ 1099511627776) :
  Calls Tryz.prog 79 #[.pointer (some ⟨g, 0, none⟩), itemV x ba bc ia ic] w fun e w' => e = .returned (.bool (decide (s + spendP x ≤ 4096))) ∧ Chk w' g i (s + spendP x) ∧ w.grownBy w' (some g) := by
 have hfl := floatB_length x.n;have E : Hid (spendP x = (floatB x.n).length) := by simp [Hid, spendP, h8]
 obtain ⟨_, _, hn, _⟩ := hx.bounds;have HN : U64 x.n := ⟨by omega, by omega⟩
 have hlt := hc.lt;have hB := Blk.new w 31 #[.int .i64 8, .int .u64 x.n, .slice ba x.bytes.length bc, .slice ia x.items.length ic];have hC := hc.alloc (.cells #[.int .i64 8, .int .u64 x.n, .slice ba x.bytes.length bc, .slice ia x.items.length ic] 31);clear hx hn;go_enter Tryz.func79, Tryz.ntmps79
 go_wp2_with fail
 refine wp_region_ways 11 (fun w' => w'.cell? ⟨g, 1, none⟩ = some (.int .i64 s) ∧ w'.cell? ⟨w.heap.size, 1, none⟩ = some (.int .u64 x.n)) (by kernel_rfl) (⟨hC.cell 1 rfl, hB.cell 1 rfl⟩) (fun hHeld => ?_)
 refine Tk 0 rfl hHeld ?_
 refine Tk 1 rfl hHeld ?_
 refine Tk 2 rfl hHeld ?_
 refine Tk 3 rfl hHeld ?_
 refine Tk 4 rfl hHeld ?_
 refine Tk 5 rfl hHeld ?_
 refine To 6 rfl fun K hK => ?_
 go_simp
 refine (cbor_float _ _ HN.1 HN.2).mono ?_
 rintro e w1 ⟨r, rfl, hf⟩
 obtain ⟨A, c, rfl, _, _, _⟩ := hf.own.form;have hC1 := hC.drew.below hf.2
 refine hK.out _ _ (fun _ => ?_) (fun hHeld => ?_)
 ·exact ⟨hC1.cell 1 rfl, (hB.drew.below hf.2).cell 1 rfl⟩
 clear hK K;have hHeld := hHeld (by decide)
 try simp only [Act.put, zz4, zz5, zz6]
 refine Tk 7 rfl hHeld ?_
 refine Tk 8 rfl hHeld ?_
 refine Tk 9 rfl hHeld ?_
 refine Tk 10 rfl hHeld ?_
 refine To 11 rfl fun K hK => ?_
 have d1 := hC1.cell 1 rfl;have d2 := hC1.frozen 1;go_simp
 refine hK.out _ _ (fun h => absurd rfl h) (fun _ => ?_)
 clear hK K
 try simp only [Act.put, zz4, zz5, zz6]
 refine Ways.done (by kernel_rfl) ?_
 all_goals
  have hw : Hid (IntKind.i64.wrap (s + ((floatB x.n).length : Int)) = s + (spendP x : Int)) := by rw [Hid, E.out]; exact IntWalk.i64_in _ (by omega)
  have R : Chk (w1.setCell ⟨g, 1, none⟩ (.int .i64 (s + (spendP x : Int)))) g i (s + (spendP x : Int)) ∧ w.grownBy (w1.setCell ⟨g, 1, none⟩ (.int .i64 (s + (spendP x : Int)))) (some g) :=
   ⟨(hC.drew.below hf.2).set_ 1 _, grown_set (grown_below (grown_drew (grown_alloc (grown_refl w _) _)) hf.2) (.inl rfl) _⟩
  rw [hw.out];have e1 := R.1.cell 1 rfl;clear d1 d2;go_wp2
  go_ret
  exact ⟨rfl, R⟩
theorem spend_simple {x : Itm} {ba : Option Addr} {bc : Nat} {ia : Option Addr} {ic : Nat} (w : World) (g : Nat) (i s : Int) (hc : Chk w g i s) (h7 : x.kind = 7) (hs0 : 0 ≤ s) (hs1 : s ≤ 1099511627776) :
  Calls Tryz.prog 79 #[.pointer (some ⟨g, 0, none⟩), itemV x ba bc ia ic] w fun e w' => e = .returned (.bool (decide (s + spendP x ≤ 4096))) ∧ Chk w' g i (s + spendP x) ∧ w.grownBy w' (some g) := by
 have hlt := hc.lt;have c1 := hc.cell 1 rfl;have f1 := hc.frozen 1
 by_cases h24 : (24 : Int) ≤ (x.n : Int)
 ·have E : Hid ((spendP x : Int) = 2) := by
   have : 24 ≤ x.n := by omega
   simp [Hid, spendP, h7, this]
  have d1 := (hc.set_ 1 (.int .i64 (s + 1))).cell 1 rfl;have g1 := (hc.set_ 1 (.int .i64 (s + 1))).frozen 1;go_enter Tryz.func79, Tryz.ntmps79
  go_wp2
  go_ret
  have e : s + 1 + 1 = s + (spendP x : Int) := by rw [E.out]; omega
  rw [← e]
  exact ⟨rfl, ((hc.set_ 1 _).set_ 1 _).alloc _, grown_alloc (grown_set (grown_set (grown_refl w _) (.inl rfl) _) (.inl rfl) _) _⟩
 ·have E : Hid ((spendP x : Int) = 1) := by
   have : ¬ 24 ≤ x.n := by omega
   simp [Hid, spendP, h7, this]
  have d1 := (hc.set_ 1 (.int .i64 (s + 1))).cell 1 rfl;go_enter Tryz.func79, Tryz.ntmps79
  go_wp2
  go_ret
  have e : s + 1 = s + (spendP x : Int) := by rw [E.out]
  rw [← e]
  exact ⟨rfl, (hc.set_ 1 _).alloc _, grown_alloc (grown_set (grown_refl w _) (.inl rfl) _) _⟩
theorem spend_more {H : Snap} {x : Itm} {ba : Option Addr} {bc : Nat} {ia : Option Addr} {ic : Nat} (hx : IsItem H ba bc ia ic x) (w : World) (g : Nat) (i s : Int) (hc : Chk w g i s) (h0 : 0 ≤ x.kind) (h7 : x.kind < 7) (hs0 : 0 ≤ s) (hs1 : s ≤ 1099511627776) (hbl : x.bytes.length ≤ 1099511627776) :
  Calls Tryz.prog 79 #[.pointer (some ⟨g, 0, none⟩), itemV x ba bc ia ic] w fun e w' => e = .returned (.bool (decide (s + spendP x ≤ 4096))) ∧ Chk w' g i (s + spendP x) ∧ w.grownBy w' (some g) := by
 have hlt := hc.lt
 have hN0 : (numP x : Int) < 18446744073709551616 := by
  have := hx.bounds
  unfold numP
  repeat' split
  all_goals omega
 have HN : U64 (numP x) := ⟨by omega, hN0⟩
 have hb9 := headB_le x.kind.toNat (numP x);have E : Hid (spendP x = (headB x.kind.toNat (numP x)).length + x.bytes.length) := by rw [Hid, spendP, if_neg (by omega), if_neg (by omega)]
 have b7 : (x.kind == 7) = false := by simp; omega
 have b8 : (x.kind == 8) = false := by simp; omega
 have hB := Blk.new w 31 #[.int .i64 x.kind, .int .u64 x.n, .slice ba x.bytes.length bc, .slice ia x.items.length ic];have hC := hc.alloc (.cells #[.int .i64 x.kind, .int .u64 x.n, .slice ba x.bytes.length bc, .slice ia x.items.length ic] 31);clear hN0;go_enter Tryz.func79, Tryz.ntmps79
 go_wp2_with fail
 refine wp_region_ways 17 (fun w' => w'.cell? ⟨g, 1, none⟩ = some (.int .i64 s) ∧ w'.cell? ⟨w.heap.size, 0, none⟩ = some (.int .i64 x.kind) ∧ w'.cell? ⟨w.heap.size, 1, none⟩ = some (.int .u64 x.n) ∧ w'.cell? ⟨w.heap.size, 2, none⟩ = some (.slice ba x.bytes.length bc) ∧ w'.cell? ⟨w.heap.size, 3, none⟩ = some (.slice ia x.items.length ic)) (by kernel_rfl) (⟨hC.cell 1 rfl, hB.cell 0 rfl, hB.cell 1 rfl, hB.cell 2 rfl, hB.cell 3 rfl⟩) (fun hHeld => ?_)
 refine Tk 0 rfl hHeld ?_
 refine Tk 1 rfl hHeld ?_
 refine Tk 2 rfl hHeld ?_
 refine Tk 3 rfl hHeld ?_
 refine Tk 4 rfl hHeld ?_
 refine Tk 10 rfl hHeld ?_
 refine Tk 11 rfl hHeld ?_
 refine Tk 12 rfl hHeld ?_
 refine To 5 rfl fun K hK => ?_
 go_simp
 refine (cbor_major hx.arg _ (by omega) (by omega)).mono ?_
 rintro e w1 ⟨rfl, hm⟩
 have hB1 := hB.drew.below hm;have hC1 := hC.drew.below hm
 refine hK.out _ _ (fun _ => ?_) (fun hHeld => ?_)
 ·exact ⟨hC1.cell 1 rfl, hB1.cell 0 rfl, hB1.cell 1 rfl, hB1.cell 2 rfl, hB1.cell 3 rfl⟩
 clear hK K;have hHeld := hHeld (by decide)
 try simp only [Act.put, zz4, zz5, zz6]
 refine Tk 6 rfl hHeld ?_
 refine Tk 7 rfl hHeld ?_
 refine To 8 rfl fun K hK => ?_
 go_simp
 refine (cbor_head _ _ _ (by omega) (by omega) (by omega) HN.2).mono ?_
 rintro e w2 ⟨r, rfl, hf⟩
 obtain ⟨A, c, rfl, _, _, _⟩ := hf.own.form;have hB2 := hB1.below hf.2;have hC2 := hC1.below hf.2
 refine hK.out _ _ (fun _ => ?_) (fun hHeld => ?_)
 ·exact ⟨hC2.cell 1 rfl, hB2.cell 0 rfl, hB2.cell 1 rfl, hB2.cell 2 rfl, hB2.cell 3 rfl⟩
 clear hK K;have hHeld := hHeld (by decide)
 try simp only [Act.put, zz4, zz5, zz6]
 refine Tk 9 rfl hHeld ?_
 refine Tk 13 rfl hHeld ?_
 refine Tk 14 rfl hHeld ?_
 refine Tk 15 rfl hHeld ?_
 refine Tk 16 rfl hHeld ?_
 refine To 17 rfl fun K hK => ?_
 have d1 := hC2.cell 1 rfl;have d2 := hC2.frozen 1;go_simp
 refine hK.out _ _ (fun h => absurd rfl h) (fun _ => ?_)
 clear hK K
 try simp only [Act.put, zz4, zz5, zz6]
 refine Ways.done (by kernel_rfl) ?_
 have hw : Hid (IntKind.i64.wrap (s + IntKind.i64.wrap (((headB x.kind.toNat (numP x)).length : Int) + (x.bytes.length : Int))) = s + (spendP x : Int)) := by
  rw [Hid, E.out, IntWalk.i64_in (((headB x.kind.toNat (numP x)).length : Int) + (x.bytes.length : Int)) (by omega), IntWalk.i64_in _ (by omega)]
  omega
 have R : Chk (w2.setCell ⟨g, 1, none⟩ (.int .i64 (s + (spendP x : Int)))) g i (s + (spendP x : Int)) ∧ w.grownBy (w2.setCell ⟨g, 1, none⟩ (.int .i64 (s + (spendP x : Int)))) (some g) :=
  ⟨hC2.set_ 1 _, grown_set (grown_below (grown_below (grown_drew (grown_alloc (grown_refl w _) _)) hm) hf.2) (.inl rfl) _⟩
 rw [Int.toNat_natCast] at *;rw [hw.out];have e1 := R.1.cell 1 rfl;clear d1 d2;go_wp2
 go_ret
 exact ⟨rfl, R⟩
theorem cbor_spend {H : Snap} {k n : Int} {ba : Option Addr} {bl bc : Nat} {ia : Option Addr} {il ic : Nat} {x : Itm} (hx : ItemA H k n ba bl bc ia il ic x) (w : World) (g : Nat) (i s : Int) (hc : Chk w g i s)
  (h0 : 0 ≤ x.kind) (h8 : x.kind ≤ 8) (hs0 : 0 ≤ s) (hs1 : s ≤ 1099511627776) (hbl : x.bytes.length ≤ 1099511627776) :
  Calls Tryz.prog 79 #[.pointer (some ⟨g, 0, none⟩), .agg #[.int .i64 k, .int .u64 n, .slice ba bl bc, .slice ia il ic]] w
   fun e w' => e = .returned (.bool (decide (s + spendP x ≤ 4096))) ∧ Chk w' g i (s + spendP x) ∧ w.grownBy w' (some g) := by
 obtain ⟨rfl, rfl, rfl, rfl, hx⟩ := hx
 by_cases h : x.kind = 8
 ·exact spend_float hx w g i s hc h hs0 hs1
 by_cases h7 : x.kind = 7
 ·exact spend_simple w g i s hc h7 hs0 hs1
 ·exact spend_more hx w g i s hc h0 (by omega) hs0 hs1 hbl
theorem cbor_ascending {H : Snap} (l : List Itm) (b off : Nat) (A : Option Addr) (ic : Nat) (w : World) (hA : 0 < l.length → A = some ⟨b, off, none⟩ ∧ IsElems H b off l) (hH : Holds w H) (hk : KindsL l)
  (hlen : ∀ k (h : k < l.length), (encB l[k]).length ≤ 1099511627776) (n : Nat) (hn : n = l.length) (hnn : n ≤ 1099511627776) :
  Calls Tryz.prog 80 #[.slice A n ic] w fun e w' => e = .returned (.bool (ascP l)) ∧ Below w.heap.size w w' := by
 obtain ⟨ans, hans⟩ : ∃ b, ascP l = b := ⟨_, rfl⟩
 rw [hans];have HAns := Hh hans;have HNn := Hh hn;have HLen := Hh hlen;have HAA := Hh hA;clear hans hn hlen hA;go_enter Tryz.func80, Tryz.ntmps80
 go_wp2
 go_loopw [3] (fun i wr => ∃ j : Nat, 2 ≤ j ∧ i = .int .i64 j ∧ j ≤ n + 2 ∧ ascP (l.drop (j - 2)) = ans ∧ Below w.heap.size w wr) (fun i _ => (n + 2 - intOf i).toNat)
 case atStart => exact ⟨2, Nat.le_refl _, rfl, by omega, by simpa using HAns.out, Below.refl _ _⟩
 case round =>
  obtain ⟨j, h2, rfl, hj, hasc, hb⟩ := hrel
  by_cases hlt : j < n
  ·have hn := HNn.out;obtain ⟨hA, hel⟩ := HAA.out (by omega);have hstep := ascP_drop l j h2 (by omega);obtain ⟨y1, y2, y3, y4, p0, p1, p2, p3, hy⟩ := hel.get (j - 2) (by omega);obtain ⟨z1, z2, z3, z4, q0, q1, q2, q3, hz⟩ := hel.get j (by omega);have hky := hk.get (j - 2) (by omega);have hkz := hk.get j (by omega);have hly := HLen.out (j - 2) (by omega);have hlz := HLen.out j (by omega)
   generalize l[j - 2]'(by omega) = y at *
   generalize l[j]'(by omega) = z at *
   have hi0 : (0 : Int) ≤ (j : Int) - 2 := by omega
   have hi1 : (j : Int) - 2 < (n : Int) := by omega
   have hi3 : (2 : Int) ≤ (j : Int) := by omega
   have hi2 : (j : Int) < (n : Int) := by omega
   subst hA;have HST := Hh hstep;have HASC := Hh hasc;have HSZ : Hid (w.heap.size ≤ wr.heap.size) := hb.size;have hHr : Holds wr H := hH.below hb (Nat.le_refl _);have hH0 : Holds wr.drew H := hHr.drew;have hw1 : IntKind.i64.wrap ((j : Int) - 2) = (j : Int) - 2 := IntWalk.i64_in _ (by omega);have hw2 : ((j : Int) - 2).toNat = j - 2 := by omega
   clear hstep hasc hn hel;go_wp2_with fail
   refine wp_region_ways 12 (fun w' => w'.cell? ⟨b, off + (j - 2) * 4, none⟩ = some (.int .i64 y.kind) ∧ w'.cell? ⟨b, off + (j - 2) * 4 + 1, none⟩ = some (.int .u64 y.n) ∧ w'.cell? ⟨b, off + (j - 2) * 4 + 2, none⟩ = some (.slice y1 y.bytes.length y2) ∧ w'.cell? ⟨b, off + (j - 2) * 4 + 3, none⟩ = some (.slice y3 y.items.length y4) ∧ w'.cell? ⟨b, off + j * 4, none⟩ = some (.int .i64 z.kind) ∧ w'.cell? ⟨b, off + j * 4 + 1, none⟩ = some (.int .u64 z.n) ∧ w'.cell? ⟨b, off + j * 4 + 2, none⟩ = some (.slice z1 z.bytes.length z2) ∧ w'.cell? ⟨b, off + j * 4 + 3, none⟩ = some (.slice z3 z.items.length z4)) (by kernel_rfl) (⟨hHr.cell p0, hHr.cell p1, hHr.cell p2, hHr.cell p3, hHr.cell q0, hHr.cell q1, hHr.cell q2, hHr.cell q3⟩) (fun hHeld => ?_)
   refine Tk 0 rfl hHeld ?_
   refine Tk 1 rfl hHeld ?_
   refine Tk 2 rfl hHeld ?_
   refine Tk 3 rfl hHeld ?_
   refine Tk 4 rfl hHeld ?_
   refine Tk 6 rfl hHeld ?_
   refine Tk 7 rfl hHeld ?_
   refine Tk 8 rfl hHeld ?_
   refine Tk 9 rfl hHeld ?_
   refine To 5 rfl fun K hK => ?_
   go_simp
   refine (cbor_add y H _ _ _ _ _ _ _ _ _ w.heap.size (.slice none 0 0) [] hky hy.arg hH0 (OwnB.nil _ _) HSZ.out (by simp [Value.ownBlock]) (by simpa using hly)).mono ?_
   rintro e w1 ⟨r1, rfl, ho1, hg1, ha1⟩
   obtain ⟨A1, c1, rfl, _, _, hs1⟩ := ho1.form;have hb1 := grown_none hg1;have hH1 : Holds w1 H := hH0.below hb1 (Nat.le_refl _);have hz1 := hb1.size
   simp only [List.nil_append] at ho1 hs1
   refine hK.out _ _ (fun _ => ?_) (fun hHeld => ?_)
   ·exact ⟨hH1.cell p0, hH1.cell p1, hH1.cell p2, hH1.cell p3, hH1.cell q0, hH1.cell q1, hH1.cell q2, hH1.cell q3⟩
   clear hK K;have hHeld := hHeld (by decide)
   try simp only [Act.put, zz4, zz5, zz6]
   refine To 10 rfl fun K hK => ?_
   go_simp
   refine (cbor_add z H _ _ _ _ _ _ _ _ _ w.heap.size (.slice none 0 0) [] hkz hz.arg hH1 (OwnB.nil _ _) (Nat.le_trans HSZ.out hz1) (by simp [Value.ownBlock]) (by simpa using hlz)).mono ?_
   rintro e w2 ⟨r2, rfl, ho2, hg2, ha2⟩
   obtain ⟨A2, c2, rfl, _, _, hs2⟩ := ho2.form;have hb2 := grown_none hg2;have hH2 : Holds w2 H := hH1.below hb2 (Nat.le_refl _)
   simp only [List.nil_append] at ho2 hs2
   refine hK.out _ _ (fun _ => ?_) (fun hHeld => ?_)
   ·exact ⟨hH2.cell p0, hH2.cell p1, hH2.cell p2, hH2.cell p3, hH2.cell q0, hH2.cell q1, hH2.cell q2, hH2.cell q3⟩
   clear hK K;have hHeld := hHeld (by decide)
   try simp only [Act.put, zz4, zz5, zz6]
   refine To 11 rfl fun K hK => ?_
   go_simp
   refine (bytes_Compare _ _ _ (encB y) (encB z) _ _ _ _ (by simp) (by simp) (hs1.below hb2) hs2).mono ?_
   rintro e w3 ⟨rfl, rfl⟩
   refine hK.out _ _ (fun _ => ?_) (fun hHeld => ?_)
   ·exact ⟨hH2.cell p0, hH2.cell p1, hH2.cell p2, hH2.cell p3, hH2.cell q0, hH2.cell q1, hH2.cell q2, hH2.cell q3⟩
   clear hK K;have hHeld := hHeld (by decide)
   try simp only [Act.put, zz4, zz5, zz6]
   refine To 12 rfl fun K hK => ?_
   go_simp
   refine hK.out _ _ (fun h => absurd rfl h) (fun _ => ?_)
   clear hK K
   try simp only [Act.put, zz4, zz5, zz6]
   refine Ways.done (by kernel_rfl) ?_
   have hbw := hb.drew.trans ((hb1.trans (hb2.mono hz1)).mono HSZ.out);have hcmp := Hh (And.intro HST.out HASC.out);clear HST HASC p0 p1 p2 p3 q0 q1 q2 q3 hHeld ho1 ho2 hg1 hg2 ha1 ha2 hs1 hs2
   generalize hcv : Lib.compareBytes (encB y) (encB z) = cv at *
   by_cases hc : (0 : Int) ≤ cv
   ·have ha : ans = false := by
     obtain ⟨h1, h2⟩ := hcmp.out;rw [← h2, h1];have : ¬ cv < 0 := by omega
     simp [this]
    have HAF := Hh ha;clear ha;go_wp2
    go_ret
    exact ⟨(by rw [HAF.out]; rfl), hbw⟩
   ·have ha : ascP (l.drop j) = ans := by
     obtain ⟨h1, h2⟩ := hcmp.out;rw [← h2, h1];have : cv < 0 := by omega
     simp [this]
    have HAF := Hh ha;clear ha;go_wp2
    go_roundw
    case rel => exact ⟨j + 2, by omega, by go_num, by omega, HAF.out, hbw⟩
    case measure => simp [intOf]; omega
  ·have hn := HNn.out;have hend := Hh (ascP_end l j h2 (by omega));have HASC := Hh hasc;clear hasc hn;go_wp2
   go_ret
   exact ⟨(by rw [← HASC.out, hend.out]; rfl), hb⟩
def Counts (w : World) (g : Nat) (o : Option (Nat × Nat)) (e : Ending) (w' : World) : Prop :=
 e = .returned (.bool o.isSome) ∧ w.grownBy w' (some g) ∧ ∃ i s : Int, Chk w' g i s ∧ ∀ p, o = some p → i = (p.1 : Int) ∧ s = (p.2 : Int)
def ItemSaid (x : Itm) : Prop := ∀ (H : Snap) (k n : Int) (ba : Option Addr) (bl bc : Nat) (ia : Option Addr) (il ic : Nat) (w : World) (g i s lv : Nat),
 Tabs H → ItemA H k n ba bl bc ia il ic x → Holds w H → H g = none → Chk w g i s → i ≤ 256 → s ≤ 4096 → lv ≤ 8 →
 Calls Tryz.prog 67 #[.pointer (some ⟨g, 0, none⟩), .agg #[.int .i64 k, .int .u64 n, .slice ba bl bc, .slice ia il ic], .int .i64 (lv : Int)] w (Counts w g (chk x lv i s))
theorem item_many (x : Itm) (i s lv : Nat) (h : 256 < i + 1 ∨ 4096 < x.bytes.length ∨ 256 < x.items.length) {H : Snap} {ba : Option Addr} {bc : Nat} {ia : Option Addr} {ic : Nat} (hx : IsItem H ba bc ia ic x) (w : World) (g : Nat)
  (hc : Chk w g i s) (hi : i ≤ 256) : Calls Tryz.prog 67 #[.pointer (some ⟨g, 0, none⟩), itemV x ba bc ia ic, .int .i64 (lv : Int)] w (Counts w g (chk x lv i s)) := by
 have E : Hid (chk x lv i s = none) := by rw [Hid, chk_eq, if_pos h]
 obtain ⟨_, _, _, hb1, hb2, hi1, hi2⟩ := hx.bounds;have hb : x.bytes.length ≤ 9223372036854775807 := by omega
 have hil : x.items.length ≤ 9223372036854775807 := by omega
 have hlt := hc.lt;have c0 := hc.cell 0 rfl;have f0 := hc.frozen 0;have c00 := (hc.set_ 0 (.int .i64 ((i : Int) + 1))).cell 0 rfl
 have R := Hh (And.intro ((hc.set_ 0 (.int .i64 ((i : Int) + 1))).alloc (.cells #[.int .i64 x.kind, .int .u64 x.n, .slice ba x.bytes.length bc, .slice ia x.items.length ic] 31))
  (grown_alloc (grown_set (grown_refl w (some g)) (.inl (rfl : (⟨g, 0, none⟩ : Addr).block = g)) (.int .i64 ((i : Int) + 1))) (.cells #[.int .i64 x.kind, .int .u64 x.n, .slice ba x.bytes.length bc, .slice ia x.items.length ic] 31)))
 have HH := Hh h;clear hx hb1 hb2 hi1 hi2 h;go_enter Tryz.func67, Tryz.ntmps67
 go_wp2_with fail
 all_goals first
  | (go_ret; exact ⟨by rw [E.out]; rfl, R.out.2, _, _, R.out.1, by rw [E.out]; intro p hp; cases hp⟩)
  | (exfalso; have := HH.out; omega)
abbrev boxed (w : World) (g : Nat) (i : Int) (x : Itm) (ba : Option Addr) (bc : Nat) (ia : Option Addr) (ic : Nat) : World :=
 (w.setCell ⟨g, 0, none⟩ (.int .i64 i)).alloc (.cells #[.int .i64 x.kind, .int .u64 x.n, .slice ba x.bytes.length bc, .slice ia x.items.length ic] 31)
theorem item_plain (x : Itm) (i s lv : Nat) (h1 : i + 1 ≤ 256) (h2 : x.bytes.length ≤ 4096) (h3 : x.items.length ≤ 256) (hp : isPlain x = true) {H : Snap} (hT : Tabs H) {ba : Option Addr} {bc : Nat} {ia : Option Addr} {ic : Nat} (hx : IsItem H ba bc ia ic x)
  (w : World) (hH : Holds w H) (g : Nat) (hg : H g = none) (hc : Chk w g i s) (hs : s ≤ 4096) :
  Calls Tryz.prog 67 #[.pointer (some ⟨g, 0, none⟩), itemV x ba bc ia ic, .int .i64 (lv : Int)] w (Counts w g (chk x lv i s)) := by
 have E : Hid (chk x lv i s = if okPlain x = true ∧ s + spendP x ≤ 4096 then some (i + 1, s + spendP x) else none) := by rw [Hid, chk_eq, if_neg (by omega), if_pos hp]
 have hk := (isPlain_iff x).1 hp;have hk0 : 0 ≤ x.kind := by omega
 have hk8 : x.kind ≤ 8 := by omega
 have hlt := hc.lt;have c0 := hc.cell 0 rfl;have f0 := hc.frozen 0;have c00 := (hc.set_ 0 (.int .i64 ((i : Int) + 1))).cell 0 rfl;have hC1 : Chk (boxed w g ((i : Int) + 1) x ba bc ia ic) g ((i : Int) + 1) s := (hc.set_ 0 _).alloc _
 have hB1 : Blk (boxed w g ((i : Int) + 1) x ba bc ia ic) w.heap.size 31 #[.int .i64 x.kind, .int .u64 x.n, .slice ba x.bytes.length bc, .slice ia x.items.length ic] := by
  have := Blk.new (w.setCell ⟨g, 0, none⟩ (.int .i64 ((i : Int) + 1))) 31 #[.int .i64 x.kind, .int .u64 x.n, .slice ba x.bytes.length bc, .slice ia x.items.length ic];rwa [show (w.setCell ⟨g, 0, none⟩ (.int .i64 ((i : Int) + 1))).heap.size = w.heap.size by simp [World.setCell]] at this
 have hG1 : w.grownBy (boxed w g ((i : Int) + 1) x ba bc ia ic) (some g) := grown_alloc (grown_set (grown_refl w (some g)) (.inl rfl) _) _;have hH1 : Holds (boxed w g ((i : Int) + 1) x ba bc ia ic) H := (hH.setCell hg _).alloc _;clear hk;have hxa := hx.arg;clear hx;go_enter Tryz.func67, Tryz.ntmps67
 go_wp2_with fail
 refine (cbor_plain hT hxa _ hH1).mono ?_
 rintro e w2 ⟨rfl, hb2⟩
 have hC2 := hC1.below hb2;have hB2 := hB1.below hb2;have hG2 := grown_below hG1 hb2;have b0 := hB2.cell 0 rfl;have b1 := hB2.cell 1 rfl;have b2 := hB2.cell 2 rfl;have b3 := hB2.cell 3 rfl
 by_cases ho : okPlain x = true
 ·go_wp2_with fail
  refine (cbor_spend hxa w2 g ((i : Int) + 1) s hC2 hk0 hk8 (by omega) (by omega) (by omega)).mono ?_
  rintro e w3 ⟨rfl, hC3, hG3⟩
  have R := Hh (And.intro (grown_step hG2 hG3 (.inl rfl)) hC3);clear c0 f0 c00 hC1 hB1 hG1 hH1 hC2 hB2 hG2 b0 b1 b2 b3 hC3 hG3;go_wp2_with fail
  go_ret
  refine ⟨?_, R.out.1, _, _, R.out.2, ?_⟩
  ·rw [E.out]
   by_cases hle : s + spendP x ≤ 4096
   ·rw [if_pos ⟨ho, hle⟩, show decide ((s : Int) + (spendP x : Int) ≤ 4096) = true by simp; omega];rfl
   ·rw [if_neg (fun h => hle h.2), show decide ((s : Int) + (spendP x : Int) ≤ 4096) = false by simp; omega];rfl
  ·intro p hp
   rw [E.out] at hp
   split at hp
   ·injection hp with hp
    subst hp
    exact ⟨by simp, by simp⟩
   ·cases hp
 ·have ho' : okPlain x = false := by simpa using ho
  clear ho;have R := Hh (And.intro hG2 hC2);clear c0 f0 c00 hC1 hB1 hG1 hH1 hC2 hB2 hG2 b0 b1 b2 b3;go_wp2_with fail
  go_ret
  have e0 : chk x lv i s = none := by rw [E.out, if_neg (fun h => by rw [ho'] at h; cases h.1)]
  exact ⟨by rw [e0]; rfl, R.out.1, _, _, R.out.2, by rw [e0]; intro p hp; cases hp⟩
theorem item_frame (x : Itm) (i s lv : Nat) (h1 : i + 1 ≤ 256) (h2 : x.bytes.length ≤ 4096) (h3 : x.items.length ≤ 256) (hp : isPlain x = false) (hf : frameOk x lv = false) {H : Snap} (hT : Tabs H) {ba : Option Addr} {bc : Nat} {ia : Option Addr} {ic : Nat} (hx : IsItem H ba bc ia ic x)
  (w : World) (hH : Holds w H) (g : Nat) (hg : H g = none) (hc : Chk w g i s) (hs : s ≤ 4096) (hlv : lv ≤ 8) :
  Calls Tryz.prog 67 #[.pointer (some ⟨g, 0, none⟩), itemV x ba bc ia ic, .int .i64 (lv : Int)] w (Counts w g (chk x lv i s)) := by
 have E : Hid (chk x lv i s = none) := by rw [Hid, chk_eq, if_neg (by omega), if_neg (by simp [hp]), if_pos hf]
 have hlt := hc.lt;have c0 := hc.cell 0 rfl;have f0 := hc.frozen 0;have c00 := (hc.set_ 0 (.int .i64 ((i : Int) + 1))).cell 0 rfl;have hC1 : Chk (boxed w g ((i : Int) + 1) x ba bc ia ic) g ((i : Int) + 1) s := (hc.set_ 0 _).alloc _
 have hB1 : Blk (boxed w g ((i : Int) + 1) x ba bc ia ic) w.heap.size 31 #[.int .i64 x.kind, .int .u64 x.n, .slice ba x.bytes.length bc, .slice ia x.items.length ic] := by
  have := Blk.new (w.setCell ⟨g, 0, none⟩ (.int .i64 ((i : Int) + 1))) 31 #[.int .i64 x.kind, .int .u64 x.n, .slice ba x.bytes.length bc, .slice ia x.items.length ic];rwa [show (w.setCell ⟨g, 0, none⟩ (.int .i64 ((i : Int) + 1))).heap.size = w.heap.size by simp [World.setCell]] at this
 have hG1 : w.grownBy (boxed w g ((i : Int) + 1) x ba bc ia ic) (some g) := grown_alloc (grown_set (grown_refl w (some g)) (.inl rfl) _) _;have hH1 : Holds (boxed w g ((i : Int) + 1) x ba bc ia ic) H := (hH.setCell hg _).alloc _;have hxa := hx.arg;have HF := Hh hf;clear hx hf;go_enter Tryz.func67, Tryz.ntmps67
 go_wp2_with fail
 refine (cbor_plain hT hxa _ hH1).mono ?_
 rintro e w2 ⟨rfl, hb2⟩
 have hC2 := hC1.below hb2;have hB2 := hB1.below hb2;have R := Hh (And.intro (grown_below hG1 hb2) hC2);have b0 := hB2.cell 0 rfl;have b1 := hB2.cell 1 rfl;have b2 := hB2.cell 2 rfl;have b3 := hB2.cell 3 rfl;clear c0 f0 c00 hC1 hB1 hG1 hH1 hC2 hB2 hb2;go_wp2_with fail
 all_goals first
  | (go_ret; exact ⟨by rw [E.out]; rfl, R.out.1, _, _, R.out.2, by rw [E.out]; intro p hp; cases hp⟩)
  | skip
 all_goals try simp only [beq_eq_false_iff_ne, ne_eq] at *
 all_goals exact absurd (show _ ∧ _ ∧ _ ∧ _ ∧ _ ∧ _ ∧ _ from ⟨by omega, by omega, by omega, by omega, fun _ => by omega, fun _ => by omega, fun _ => by omega⟩) (of_decide_eq_false HF.out)
theorem Dealt.gb {w w' w'' : World} {H H' : Snap} {g k : Nat} (h : Dealt w H w' H' g) (h0 : H' k = none) (hw : w.heap.size ≤ k) (hlt : g < w.heap.size) (hg : w'.grownBy w'' (some k)) : Dealt w H w'' H' g := h.grownRow (row := some k) (by rintro q ⟨⟩; exact h0) (by rintro q ⟨⟩; exact hw) hlt hg
end Go.Proofs.YtlebpackbfcfeaaGreatDoor
