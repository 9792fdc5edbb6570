/- Walks: the deck's bytes. Walks: the deck's texts and numbers. Walks: the references' Widen; the deck's floats. -/
import Derived.Test.YtdbhgngikglmcaaDoorJrb
import Derived.Test.YtdbhgngikglmcaaDoorJlow
set_option linter.unusedVariables false
set_option linter.unusedSimpArgs false
namespace Go.Proofs.YtdbhgngikglmcaaDoor
open Go.RowKit

section
variable {w w' w'' : World} {H H' H'' : Snap} {g : Nat}
theorem GrowsBut.refl (hH : Holds w H) (g : Nat) : GrowsBut w H w H g := ⟨grown_refl w _, Snap.le.refl _, hH, fun _ _ h => .inl h⟩
theorem GrowsBut.trans (h : GrowsBut w H w' H' g) (k : GrowsBut w' H' w'' H'' g) : GrowsBut w H w'' H'' g :=
  ⟨grown_step h.grown k.grown (.inl rfl), h.le.trans k.le, k.holds, fun b o hb => by
    rcases k.fresh b o hb with h1 | h1
    · exact h.fresh b o h1
    · exact .inr (Nat.le_trans h.grown.size h1)⟩
theorem Grows.but (h : Grows w H w' H') (g : Nat) : GrowsBut w H w' H' g := ⟨grown_of_below h.below _, h.le, h.holds, h.fresh⟩
theorem GrowsBut.hid (h : GrowsBut w H w' H' g) {k : Nat} (hk : H k = .none) (hl : k < w.heap.size) : H' k = .none := by
  cases hH : H' k with
  | none => rfl
  | some o =>
    rcases h.fresh k o hH with hx | hx
    · rw [hk] at hx; cases hx
    · omega
/-- A deck, and data that stay. -/
structure DeckIn (w : World) (g : Nat) (H : Snap) : Prop where
  deck : Deck w g H
  holds : Holds w H
  apart : H g = .none
/-- A deck was drawn from; there is new memory. -/
structure Dealt (w : World) (H : Snap) (w' : World) (H' : Snap) (g : Nat) : Prop where
  grows : GrowsBut w H w' H' g
  deck : DeckIn w' g H'
theorem Dealt.refl (h : DeckIn w g H) : Dealt w H w H g := ⟨GrowsBut.refl h.holds g, h⟩
theorem Dealt.trans (h : Dealt w H w' H' g) (k : Dealt w' H' w'' H'' g) : Dealt w H w'' H'' g := ⟨h.grows.trans k.grows, k.deck⟩
theorem DeckIn.grows (h : DeckIn w g H) (k : Grows w H w' H') : Dealt w H w' H' g :=
  ⟨k.but g, ⟨(h.deck.below k.below).mono k.le, k.holds, k.none h.apart h.deck.lt⟩⟩
theorem Dealt.grown (h : Dealt w H w' H' g) (k : Grows w' H' w'' H'') : Dealt w H w'' H'' g := h.trans (h.deck.grows k)
theorem Dealt.alloc (h : Dealt w H w' H' g) (o : Obj) : Dealt w H (w'.alloc o) H' g := h.grown ((Grows.refl h.deck.holds).alloc o)
theorem Dealt.drew (h : Dealt w H w' H' g) : Dealt w H w'.drew H' g := h.grown ((Grows.refl h.deck.holds).drew)
theorem DeckIn.alloc (h : DeckIn w g H) (o : Obj) : DeckIn (w.alloc o) g H := (h.grows ((Grows.refl h.holds).alloc o)).deck
theorem DeckIn.drew (h : DeckIn w g H) : DeckIn w.drew g H := (h.grows ((Grows.refl h.holds).drew)).deck
theorem Dealt.le (h : Dealt w H w' H' g) : H.le H' := h.grows.le
theorem Dealt.holds (h : Dealt w H w' H' g) : Holds w' H' := h.deck.holds
theorem Dealt.size (h : Dealt w H w' H' g) : w.heap.size ≤ w'.heap.size := h.grows.grown.size
theorem Dealt.hid (h : Dealt w H w' H' g) {k : Nat} (hk : H k = .none) (hl : k < w.heap.size) : H' k = .none := h.grows.hid hk hl
theorem Dealt.grownRow {row : Option Nat} (h : Dealt w H w' H' g) (h0 : ∀ k, row = some k → H' k = .none) (hw : ∀ k, row = some k → w.heap.size ≤ k) (hlt : g < w.heap.size) (hg : w'.grownBy w'' row) : Dealt w H w'' H' g := by
  have hd := h.deck
  have hne : row ≠ some g := fun e => by have := hw g e; omega
  refine ⟨⟨?_, h.le, h.holds.grown hg h0, h.grows.fresh⟩, ?_, h.holds.grown hg h0, hd.apart⟩
  · exact ⟨hg.os.trans h.grows.grown.os, hg.tape.trans h.grows.grown.tape, hg.output.trans h.grows.grown.output, Nat.le_trans h.size hg.size, fun i hi hne' =>
      (hg.block i (Nat.lt_of_lt_of_le hi h.size) (fun e => by have := hw i e.symm; omega)).trans (h.grows.grown.block i hi hne')⟩
  · obtain ⟨A, c, l, k, h1, h2, h3⟩ := hd.deck
    exact ⟨A, c, l, k, h1.grown hg hne, h2, h3⟩
theorem Blk.dealt {k : Nat} {t : TypeId} {cs : Array Value} (h : Blk w k t cs) (hd : Dealt w H w' H' g) (hk : k ≠ g) : Blk w' k t cs :=
  h.grown hd.grows.grown (by intro e; injection e with e; exact hk e.symm)
theorem OwnB.dealt {base : Nat} {v : Value} {l : List UInt8} (h : OwnB w base v l) (hd : Dealt w H w' H' g) (hb : g < base) : OwnB w' base v l := by
  refine h.kept hd.grows.grown ?_
  cases hv : v.ownBlock with
  | none => exact .inl rfl
  | some k => exact .inr (fun e => by injection e with e; have := h.lt k hv; omega)
theorem OwnI.dealt {base : Nat} {v : Value} {K : Snap} {l : List Itm} (h : OwnI w base v K l) (hd : Dealt w H w' H' g) (hb : g < base) : OwnI w' base v K l := by
  refine h.kept hd.grows.grown ?_
  cases hv : v.ownBlock with
  | none => exact .inl rfl
  | some k => exact .inr (fun e => by injection e with e; have := h.lt k hv; omega)
end

theorem deck_Next {H : Snap} {g : Nat} (w : World) (hD : DeckIn w g H) (n : Int) (hn : 0 < n) (hn2 : n ≤ 1099511627776) :
    Calls Tryd.prog 17 #[.pointer (some ⟨g, 0, none⟩), .int .i64 n] w fun e w' => ∃ r : Nat, e = .returned (.int .i64 (r : Int)) ∧ (r : Int) < n ∧ Dealt w H w' H g := by
  refine (mk_Next w hD.deck hD.holds hD.apart n hn hn2).mono ?_
  rintro e w' ⟨r, rfl, h0, h1, h2, h3⟩
  obtain ⟨k, rfl⟩ := Int.eq_ofNat_of_zero_le h0
  have hH := hD.holds.grown h3 (by rintro q ⟨⟩; exact hD.apart)
  exact ⟨k, rfl, h1, ⟨h3, Snap.le.refl _, hH, fun _ _ h => .inl h⟩, h2, hH, hD.apart⟩

set_option maxRecDepth 100000 in
set_option maxHeartbeats 1600000 in
theorem mk_Bytes {H : Snap} {g : Nat} (w : World) (hD : DeckIn w g H) (n : Int) (hn : 0 ≤ n) (hn2 : n ≤ 1048576) :
    Calls Tryd.prog 30 #[.pointer (some ⟨g, 0, none⟩), .int .i64 n] w fun e w' =>
      ∃ A c l, e = .returned (.slice A l.length c) ∧ (l.length : Int) ≤ n ∧ ∃ H', IsBytes H' A c l ∧ Dealt w H w' H' g := by
  have NX := Lib.hid (deck_Next w hD (n + 1) (by omega) (by omega))
  have K0 : IntKind.i64.wrap (n + 1) = n + 1 := IntWalk.i64_in _ (by omega)
  have hgl := hD.deck.lt
  have HN := Lib.hid (And.intro hn hn2)
  have HD := Lib.hid hD
  clear hn hn2 hD
  go_enter Tryd.func30, Tryd.ntmps30
  go_wp2_with fail
  refine NX.out.mono ?_
  rintro e w1 ⟨r, rfl, hr, hd1⟩
  have hO1 := OwnB.nil w1 w.heap.size
  go_wp2_with fail
  go_loopw [5, 6] (fun v5 v6 wr => ∃ (k : Nat) (VA : Option Addr) (vc vn : Nat) (l : List UInt8), v6 = .int .i64 (k : Int) ∧ v5 = .slice VA vn vc ∧ OwnB wr w.heap.size (.slice VA vn vc) l ∧ vn = l.length ∧ (l.length : Int) + k ≤ n ∧ Dealt w H wr H g ∧ (∀ q, (Value.slice VA vn vc).ownBlock = some q → H q = none)) (fun _ v6 _ => (intOf v6).toNat)
  case atStart => exact ⟨r, _, _, _, _, rfl, rfl, hO1, rfl, by simp; omega, hd1, by intro q hq; simp [Value.ownBlock] at hq⟩
  case round =>
    obtain ⟨k, VA, vc, vn, l, rfl, rfl, hOr, hvn, hlk, hdr, hnr⟩ := hrel
    have HV := Lib.hid hvn
    have HLK := Lib.hid hlk
    clear hvn hlk
    by_cases hlt : (0 : Int) < (k : Int)
    · have NX := Lib.hid (deck_Next wr hdr.deck 256 (by omega) (by omega))
      go_wp2_with fail
      refine NX.out.mono ?_
      rintro e w2 ⟨q, rfl, hq, hd2⟩
      have hd := hdr.trans hd2
      have hO2 := hOr.dealt hd2 hgl
      have K1 : IntKind.u8.wrap (q : Int) = (q : Int) := IntWalk.u8_in _ (by omega)
      have hO3 := hO2.alloc (.cells #[.int .u8 (q : Int)] 5)
      have hd3 := hd.alloc (.cells #[.int .u8 (q : Int)] 5)
      have HC : Hid ((#[.int .u8 (q : Int)] : Array Value).toList = [u8 q].map byteV) := by
        simp only [Hid, List.map_cons, List.map_nil, byteV_u8]
        congr 2
        omega
      have hk1 : (-9223372036854775808 : Int) ≤ (k : Int) - 1 ∧ (k : Int) - 1 ≤ 9223372036854775807 := by have := HLK.out; have := HN.out; omega
      clear hq NX hdr hOr hd2 hO2 hd
      go_wp2_with (at_builtin; refine stop_in ?_)
      unfold Stopped
      obtain rfl := HV.out
      refine wpList_app_bytes rfl (.tmp 15) (.tmp 19) rfl w.heap.size (.slice VA l.length vc) _ rfl hO3 _ 1 _ [u8 q] rfl rfl (Src.new _ _ _ _ rfl _ HC.out) (by have := HLK.out; have := HN.out; simp; omega) hd3.size fun v' w7 hO7 hg7 hat7 => ?_
      obtain ⟨VA', vc', rfl, _⟩ := hO7.form
      have hd7 := hd3.grownRow hnr (fun q hq => (hO3.lt q hq).1) hgl hg7
      have hn7 : ∀ q', (Value.slice VA' (l ++ [u8 q]).length vc').ownBlock = some q' → H q' = none := fun q' hq' => by
        rcases hat7 with h | ⟨g', h1, h2⟩
        · exact hnr q' (by rw [← h, hq'])
        · rw [hq'] at h1
          injection h1 with h1
          subst h1
          exact hd3.holds.none_of_ge h2
      have hl9 : (l ++ [u8 q]).length = l.length + 1 := by simp
      rw [hl9] at hO7 hn7
      rw [hl9]
      clear hl9
      have hk2 : IntKind.i64.wrap ((k : Int) - 1) = (k : Int) - 1 := IntWalk.i64_in _ hk1
      clear hO3 hg7 hat7 hd3 hk1
      go_wp2_with fail
      go_roundw
      case rel => exact ⟨k - 1, VA', vc', _, _, by rw [show ((k - 1 : Nat) : Int) = (k : Int) - 1 by omega], rfl, hO7, by simp, by have := HLK.out; simp; omega, hd7, hn7⟩
      case measure => simp [intOf]; omega
    · go_wp2_with fail
      obtain rfl := HV.out
      obtain ⟨H', hl8, hh8, hf8, hz8, hi8⟩ := hOr.snap hdr.holds (fun q hq => hnr q (by cases VA <;> simp_all [Value.ownBlock]))
      have hG : Grows wr H wr H' → True := fun _ => trivial
      go_ret
      refine ⟨VA, vc, l, rfl, by have := HLK.out; omega, H', hi8, ⟨⟨hdr.grows.grown, hl8, hh8, fun b o hb => ?_⟩, hdr.deck.deck.mono hl8, hh8, ?_⟩⟩
      · rcases hf8 b o hb with h | h
        · exact .inl h
        · exact .inr (hOr.lt b (by cases VA <;> simp_all [Value.ownBlock])).1
      · cases hH : H' g with
        | none => rfl
        | some o =>
          rcases hf8 g o hH with h | h
          · rw [HD.out.apart] at h; cases h
          · have := (hOr.lt g (by cases VA <;> simp_all [Value.ownBlock])).1
            omega
end Go.Proofs.YtdbhgngikglmcaaDoor
namespace Go.Proofs.YtdbhgngikglmcaaDoor
open Go.RowKit

def isU64 : Value → Bool | .int .u64 x => decide (0 ≤ x) && decide (x < 18446744073709551616) | _ => false
def isI64 : Value → Bool | .int .i64 x => decide (-1000 ≤ x) && decide (x ≤ 1000) | _ => false
def isStr3 : Value → Bool | .string s => decide (s.size ≤ 3) | _ => false
theorem isU64_spec {v : Value} (h : isU64 v = true) : ∃ n : Nat, v = .int .u64 (n : Int) ∧ n < 18446744073709551616 := by
  unfold isU64 at h
  split at h
  · rename_i x
    rw [Bool.and_eq_true, decide_eq_true_eq, decide_eq_true_eq] at h
    obtain ⟨n, rfl⟩ := Int.eq_ofNat_of_zero_le h.1
    exact ⟨n, rfl, by omega⟩
  · cases h
theorem isI64_spec {v : Value} (h : isI64 v = true) : ∃ x : Int, v = .int .i64 x ∧ -1000 ≤ x ∧ x ≤ 1000 := by
  unfold isI64 at h
  split at h
  · rename_i x
    rw [Bool.and_eq_true, decide_eq_true_eq, decide_eq_true_eq] at h
    exact ⟨x, rfl, h.1, h.2⟩
  · cases h
theorem isStr3_spec {v : Value} (h : isStr3 v = true) : ∃ s : ByteArray, v = .string s ∧ s.size ≤ 3 := by
  unfold isStr3 at h
  split at h
  · rename_i x
    exact ⟨x, rfl, of_decide_eq_true h⟩
  · cases h
/-- What stands in a table at a place. -/
theorem Blk.pick {w : World} {g : Nat} {t : TypeId} {cs : Array Value} (h : Blk w g t cs) (P : Value → Bool) (hall : cs.all P = true) (k : Nat) (hk : k < cs.size) : ∃ v, w.cell? ⟨g, k, none⟩ = some v ∧ P v = true :=
  ⟨cs[k], h.cell k (Array.getElem?_eq_getElem hk), by rw [Array.all_eq_true] at hall; exact hall k hk⟩

set_option maxRecDepth 100000 in
set_option maxHeartbeats 1600000 in
theorem mk_Text {H : Snap} {g : Nat} (w : World) (hD : DeckIn w g H) (n : Int) (hn : 0 ≤ n) (hn2 : n ≤ 1048576) :
    Calls Tryd.prog 47 #[.pointer (some ⟨g, 0, none⟩), .int .i64 n] w fun e w' =>
      ∃ s : ByteArray, e = .returned (.string s) ∧ (s.size : Int) ≤ 3 * n ∧ Dealt w H w' H g := by
  have NX := Lib.hid (deck_Next w hD (n + 1) (by omega) (by omega))
  have K0 : IntKind.i64.wrap (n + 1) = n + 1 := IntWalk.i64_in _ (by omega)
  have hgl := hD.deck.lt
  have HN := Lib.hid (And.intro hn hn2)
  have HD := Lib.hid hD
  clear hn hn2 hD
  go_enter Tryd.func47, Tryd.ntmps47
  go_wp2_with fail
  refine NX.out.mono ?_
  rintro e w1 ⟨r, rfl, hr, hd1⟩
  go_wp2_with fail
  go_loopw [5, 6] (fun v5 v6 wr => ∃ (k : Nat) (s : ByteArray), v6 = .int .i64 (k : Int) ∧ v5 = .string s ∧ (s.size : Int) + 3 * k ≤ 3 * n ∧ Dealt w H wr H g) (fun _ v6 _ => (intOf v6).toNat)
  case atStart => exact ⟨r, ⟨#[]⟩, rfl, rfl, by rw [show (⟨#[]⟩ : ByteArray).size = 0 from rfl]; omega, hd1⟩
  case round =>
    obtain ⟨k, s, rfl, rfl, hlk, hdr⟩ := hrel
    have HLK := Lib.hid hlk
    clear hlk
    by_cases hlt : (0 : Int) < (k : Int)
    · have hB := Blk.new wr 9 #[.string ⟨#[97]⟩, .string ⟨#[98]⟩, .string ⟨#[47]⟩, .string ⟨#[34]⟩, .string ⟨#[92]⟩, .string ⟨#[10]⟩, .string ⟨#[127]⟩, .string ⟨#[37]⟩, .string ⟨#[195, 169]⟩, .string ⟨#[226, 130, 172]⟩]
      have hd2 := hdr.alloc (.cells #[.string ⟨#[97]⟩, .string ⟨#[98]⟩, .string ⟨#[47]⟩, .string ⟨#[34]⟩, .string ⟨#[92]⟩, .string ⟨#[10]⟩, .string ⟨#[127]⟩, .string ⟨#[37]⟩, .string ⟨#[195, 169]⟩, .string ⟨#[226, 130, 172]⟩] 9)
      have NX := Lib.hid (deck_Next _ hd2.deck 10 (by omega) (by omega))
      go_wp2_with fail
      refine NX.out.mono ?_
      rintro e w3 ⟨q, rfl, hq, hd3⟩
      have hB3 := hB.dealt hd3 (by have := hdr.size; omega)
      obtain ⟨v, hc, hP⟩ := hB3.pick isStr3 (by kernel_rfl) q (by simp; omega)
      obtain ⟨t, rfl, ht⟩ := isStr3_spec hP
      have hd := hd2.trans hd3
      have hq0 : (q : Int) < 10 := hq
      have HK := Lib.hid ht
      have hk2 : IntKind.i64.wrap ((k : Int) - 1) = (k : Int) - 1 := IntWalk.i64_in _ (by have := HLK.out; have := HN.out; omega)
      have hst : s.size + t.size ≤ 9223372036854775807 := by have := HLK.out; have := HN.out; omega
      clear NX hB hB3 hP hd2 hd3 ht
      go_wp2_with fail
      go_roundw
      case rel => exact ⟨k - 1, _, by rw [show ((k - 1 : Nat) : Int) = (k : Int) - 1 by omega], rfl, by have := HLK.out; have := HK.out; simp [ByteArray.size_append]; omega, hd⟩
      case measure => simp [intOf]; omega
    · go_wp2_with fail
      go_ret
      exact ⟨s, rfl, by have := HLK.out; omega, hdr⟩

set_option maxRecDepth 100000 in
set_option maxHeartbeats 1600000 in
theorem mk_Number {H : Snap} {g : Nat} (w : World) (hD : DeckIn w g H) :
    Calls Tryd.prog 46 #[.pointer (some ⟨g, 0, none⟩)] w fun e w' =>
      ∃ n : Nat, e = .returned (.int .u64 (n : Int)) ∧ n < 18446744073709551616 ∧ Dealt w H w' H g := by
  have NX := Lib.hid (deck_Next w hD 6 (by omega) (by omega))
  have hgl := hD.deck.lt
  clear hD
  go_enter Tryd.func46, Tryd.ntmps46
  go_wp2_with fail
  refine NX.out.mono ?_
  rintro e w1 ⟨r, rfl, hr, hd1⟩
  by_cases h0 : r = 0
  · subst h0
    have hB := Blk.new w1 22 #[.int .u64 23, .int .u64 24, .int .u64 255, .int .u64 256, .int .u64 65535, .int .u64 65536, .int .u64 4294967295, .int .u64 4294967296, .int .u64 18446744073709551615]
    have hd2 := hd1.alloc (.cells #[.int .u64 23, .int .u64 24, .int .u64 255, .int .u64 256, .int .u64 65535, .int .u64 65536, .int .u64 4294967295, .int .u64 4294967296, .int .u64 18446744073709551615] 22)
    have NX := Lib.hid (deck_Next _ hd2.deck 9 (by omega) (by omega))
    go_wp2_with fail
    refine NX.out.mono ?_
    rintro e w3 ⟨q, rfl, hq, hd3⟩
    have hB3 := hB.dealt hd3 (by have := hd1.size; omega)
    obtain ⟨v, hc, hP⟩ := hB3.pick isU64 (by kernel_rfl) q (by simp; omega)
    obtain ⟨x, rfl, hx⟩ := isU64_spec hP
    have hd := hd2.trans hd3
    have HX := Lib.hid hx
    clear NX hB hB3 hP hd2 hd3 hx
    go_wp2_with fail
    go_ret
    exact ⟨x, rfl, HX.out, hd⟩
  by_cases h1 : r = 1
  · subst h1
    have N2 := Lib.hid (deck_Next w1 hd1.deck 1073741824 (by omega) (by omega))
    go_wp2_with fail
    refine N2.out.mono ?_
    rintro e w2 ⟨q, rfl, hq, hd2⟩
    have K1 : IntKind.u64.wrap (q : Int) = (q : Int) := IntWalk.u64_in _ (by omega)
    go_wp2_with fail
    go_ret
    exact ⟨q, rfl, by omega, hd1.trans hd2⟩
  · have b0 : ((r : Int) == 0) = false := by rw [beq_eq_false_iff_ne]; omega
    have b1 : ((r : Int) == 1) = false := by rw [beq_eq_false_iff_ne]; omega
    have N2 := Lib.hid (deck_Next w1 hd1.deck 30 (by omega) (by omega))
    clear h0 h1
    go_wp2_with fail
    refine N2.out.mono ?_
    rintro e w2 ⟨q, rfl, hq, hd2⟩
    have K1 : IntKind.u64.wrap (q : Int) = (q : Int) := IntWalk.u64_in _ (by omega)
    go_wp2_with fail
    go_ret
    exact ⟨q, rfl, by omega, hd1.trans hd2⟩
end Go.Proofs.YtdbhgngikglmcaaDoor
namespace Go.Proofs.YtdbhgngikglmcaaDoor
open Go.RowKit

theorem u64_ret (x : Int) : ∃ n : Nat, Ending.returned (Value.int .u64 (IntKind.u64.wrap x)) = .returned (.int .u64 (n : Int)) ∧ n < 18446744073709551616 := by
  refine ⟨(IntKind.u64.wrap x).toNat, ?_, ?_⟩
  · rw [Int.toNat_of_nonneg (by rw [IntKind.wrap_u64]; omega)]
  · rw [IntKind.wrap_u64]; omega
theorem bits_ret (op : BinOp) (a b : Int) : ∃ n : Nat, Ending.returned (Value.int .u64 (bits op .u64 a b)) = .returned (.int .u64 (n : Int)) ∧ n < 18446744073709551616 := u64_ret _
def WidenSaid (w : World) (e : Ending) (w' : World) : Prop := (∃ n : Nat, e = .returned (.int .u64 (n : Int)) ∧ n < 18446744073709551616) ∧ w' = w

set_option maxRecDepth 100000 in
set_option maxHeartbeats 1600000 in
theorem ref_Widen5 (v : Nat) (hv : v < 18446744073709551616) (w : World) :
    Calls Tryd.prog 67 #[.int .u64 (v : Int), .int .i64 5, .int .i64 10] w (WidenSaid w) := by
  have A2 : bits .and .u64 (v : Int) 1023 = ((v % 1024 : Nat) : Int) := and_mod v 10 (by omega) (by omega)
  have hM : v % 1024 ≤ 1023 := by omega
  generalize v % 1024 = M at *
  have hz : ¬ ((0 : Int) < bits .and .u64 (v : Int) 1023 / 2048) := by rw [A2]; omega
  have HZ := Lib.hid hz
  clear A2 hM hz
  go_enter Tryd.func67, Tryd.ntmps67
  go_wp2_with fail
  · go_ret; exact ⟨bits_ret .., rfl⟩
  · go_ret; exact ⟨u64_ret .., rfl⟩
  · go_loop [12] (fun v12 => ∃ k : Nat, k ≤ 10 ∧ v12 = .int .i64 (k : Int)) (fun v12 => 10 - (intOf v12).toNat)
    case atStart => exact ⟨0, by omega, rfl⟩
    case round =>
      obtain ⟨k, hk, rfl⟩ := hrel
      rcases (by omega : k ≤ 9 ∨ k = 10) with h | rfl
      · have hk1 : (k : Int) + 1 ≤ 10 := by omega
        have hk2 : (0 : Int) ≤ (k : Int) + 1 := by omega
        have hk3 : ((k : Int) + 1).toNat = k + 1 := by omega
        go_wp2_with fail
        · go_round
          case rel => exact ⟨k + 1, by omega, by go_num⟩
          case measure => simp [intOf]; omega
        · go_ret; exact ⟨bits_ret .., rfl⟩
      · have hz := HZ.out
        go_wp2_with fail
        go_ret; exact ⟨bits_ret .., rfl⟩
  · go_ret; exact ⟨bits_ret .., rfl⟩

set_option maxRecDepth 100000 in
set_option maxHeartbeats 1600000 in
theorem ref_Widen8 (v : Nat) (hv : v < 18446744073709551616) (w : World) :
    Calls Tryd.prog 67 #[.int .u64 (v : Int), .int .i64 8, .int .i64 23] w (WidenSaid w) := by
  have A2 : bits .and .u64 (v : Int) 8388607 = ((v % 8388608 : Nat) : Int) := and_mod v 23 (by omega) (by omega)
  have hM : v % 8388608 ≤ 8388607 := by omega
  generalize v % 8388608 = M at *
  have hz : ¬ ((0 : Int) < bits .and .u64 (v : Int) 8388607 / 16777216) := by rw [A2]; omega
  have HZ := Lib.hid hz
  clear A2 hM hz
  go_enter Tryd.func67, Tryd.ntmps67
  go_wp2_with fail
  · go_ret; exact ⟨bits_ret .., rfl⟩
  · go_ret; exact ⟨u64_ret .., rfl⟩
  · go_loop [12] (fun v12 => ∃ k : Nat, k ≤ 23 ∧ v12 = .int .i64 (k : Int)) (fun v12 => 23 - (intOf v12).toNat)
    case atStart => exact ⟨0, by omega, rfl⟩
    case round =>
      obtain ⟨k, hk, rfl⟩ := hrel
      rcases (by omega : k ≤ 22 ∨ k = 23) with h | rfl
      · have hk1 : (k : Int) + 1 ≤ 23 := by omega
        have hk2 : (0 : Int) ≤ (k : Int) + 1 := by omega
        have hk3 : ((k : Int) + 1).toNat = k + 1 := by omega
        go_wp2_with fail
        · go_round
          case rel => exact ⟨k + 1, by omega, by go_num⟩
          case measure => simp [intOf]; omega
        · go_ret; exact ⟨bits_ret .., rfl⟩
      · have hz := HZ.out
        go_wp2_with fail
        go_ret; exact ⟨bits_ret .., rfl⟩
  · go_ret; exact ⟨bits_ret .., rfl⟩
end Go.Proofs.YtdbhgngikglmcaaDoor
