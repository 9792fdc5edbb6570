/- squeezed. Walks: the references' List, Copy  -/
import Derived.Test.YtmacemcajlgddaaGreatDoorK21
import Derived.Test.YtmacemcajlgddaaGreatDoorK22
import Derived.Test.YtmacemcajlgddaaGreatDoorK20
import Derived.Test.YtmacemcajlgddaaGreatDoorK01
import Derived.Test.YtmacemcajlgddaaGreatDoorK04
import Derived.Test.YtmacemcajlgddaaGreatDoorK00
set_option linter.unusedVariables false
set_option linter.unusedSimpArgs false
set_option maxRecDepth 100000
set_option maxHeartbeats 1600000
namespace Go.Proofs.YtmacemcajlgddaaGreatDoor
open Go.RowKit
structure IsRowI (H : Snap) (A : Option Addr) (c : Nat) (l : List Itm) : Prop where
 le : l.length ≤ c
 max : c ≤ 9223372036854775807
 elems : 0 < l.length → ∃ b off, A = some ⟨b, off, none⟩ ∧ IsElems H b off l
section
variable {w w' w'' : World} {H H' H'' : Snap} {g : Nat}
theorem GrowsBut.refl (hH : Holds w H) (g : Nat) : GrowsBut w H w H g := ⟨grown_refl w _, Snap.le.refl _, hH, fun _ _ h => .inl h⟩
theorem GrowsBut.trans (h : GrowsBut w H w' H' g) (k : GrowsBut w' H' w'' H'' g) : GrowsBut w H w'' H'' g :=
 ⟨grown_step h.grown k.grown (.inl rfl), h.le.trans k.le, k.holds, fun b o hb => by
  rcases k.fresh b o hb with h1 | h1
  ·exact h.fresh b o h1
  ·exact .inr (Nat.le_trans h.grown.size h1)⟩
theorem Grows.but (h : Grows w H w' H') (g : Nat) : GrowsBut w H w' H' g := ⟨grown_of_below h.below _, h.le, h.holds, h.fresh⟩
theorem GrowsBut.hid (h : GrowsBut w H w' H' g) {k : Nat} (hk : H k = .none) (hl : k < w.heap.size) : H' k = .none := by
 cases hH : H' k with
 | none => rfl
 | some o =>
  rcases h.fresh k o hH with hx | hx
  ·rw [hk] at hx; cases hx
  ·omega
structure DeckIn (w : World) (g : Nat) (H : Snap) : Prop where
 deck : Deck w g H
 holds : Holds w H
 apart : H g = .none
structure Dealt (w : World) (H : Snap) (w' : World) (H' : Snap) (g : Nat) : Prop where
 grows : GrowsBut w H w' H' g
 deck : DeckIn w' g H'
theorem Dealt.refl (h : DeckIn w g H) : Dealt w H w H g := ⟨GrowsBut.refl h.holds g, h⟩
theorem Dealt.trans (h : Dealt w H w' H' g) (k : Dealt w' H' w'' H'' g) : Dealt w H w'' H'' g := ⟨h.grows.trans k.grows, k.deck⟩
theorem DeckIn.grows (h : DeckIn w g H) (k : Grows w H w' H') : Dealt w H w' H' g :=
 ⟨k.but g, ⟨(h.deck.below k.below).mono k.le, k.holds, k.none h.apart h.deck.lt⟩⟩
theorem Dealt.grown (h : Dealt w H w' H' g) (k : Grows w' H' w'' H'') : Dealt w H w'' H'' g := h.trans (h.deck.grows k)
theorem Dealt.alloc (h : Dealt w H w' H' g) (o : Obj) : Dealt w H (w'.alloc o) H' g := h.grown ((Grows.refl h.deck.holds).alloc o)
theorem Dealt.le (h : Dealt w H w' H' g) : H.le H' := h.grows.le
theorem Dealt.holds (h : Dealt w H w' H' g) : Holds w' H' := h.deck.holds
theorem Dealt.size (h : Dealt w H w' H' g) : w.heap.size ≤ w'.heap.size := h.grows.grown.size
theorem Dealt.hid (h : Dealt w H w' H' g) {k : Nat} (hk : H k = .none) (hl : k < w.heap.size) : H' k = .none := h.grows.hid hk hl
theorem Dealt.grownRow {row : Option Nat} (h : Dealt w H w' H' g) (h0 : ∀ k, row = some k → H' k = .none) (hw : ∀ k, row = some k → w.heap.size ≤ k) (hlt : g < w.heap.size) (hg : w'.grownBy w'' row) : Dealt w H w'' H' g := by
 have hd := h.deck;have hne : row ≠ some g := fun e => by have := hw g e; omega
 refine ⟨⟨?_, h.le, h.holds.grown hg h0, h.grows.fresh⟩, ?_, h.holds.grown hg h0, hd.apart⟩
 ·exact ⟨hg.os.trans h.grows.grown.os, hg.tape.trans h.grows.grown.tape, hg.output.trans h.grows.grown.output, Nat.le_trans h.size hg.size, fun i hi hne' =>
   (hg.block i (Nat.lt_of_lt_of_le hi h.size) (fun e => by have := hw i e.symm; omega)).trans (h.grows.grown.block i hi hne')⟩
 ·obtain ⟨A, c, l, k, h1, h2, h3⟩ := hd.deck
  exact ⟨A, c, l, k, h1.grown hg hne, h2, h3⟩
theorem Blk.dealt {k : Nat} {t : TypeId} {cs : Array Value} (h : Blk w k t cs) (hd : Dealt w H w' H' g) (hk : k ≠ g) : Blk w' k t cs :=
 h.grown hd.grows.grown (by intro e; injection e with e; exact hk e.symm)
theorem OwnB.dealt {base : Nat} {v : Value} {l : List UInt8} (h : OwnB w base v l) (hd : Dealt w H w' H' g) (hb : g < base) : OwnB w' base v l := by
 refine h.kept hd.grows.grown ?_
 cases hv : v.ownBlock with
 | none => exact .inl rfl
 | some k => exact .inr (fun e => by injection e with e; have := h.lt k hv; omega)
end
theorem deck_Next {H : Snap} {g : Nat} (w : World) (hD : DeckIn w g H) (n : Int) (hn : 0 < n) (hn2 : n ≤ 1099511627776) :
  Calls Tryz.prog 17 #[.pointer (some ⟨g, 0, none⟩), .int .i64 n] w fun e w' => ∃ r : Nat, e = .returned (.int .i64 (r : Int)) ∧ (r : Int) < n ∧ Dealt w H w' H g := by
 refine (mk_Next w hD.deck hD.holds hD.apart n hn hn2).mono ?_
 rintro e w' ⟨r, rfl, h0, h1, h2, h3⟩
 obtain ⟨k, rfl⟩ := Int.eq_ofNat_of_zero_le h0;have hH := hD.holds.grown h3 (by rintro q ⟨⟩; exact hD.apart)
 exact ⟨k, rfl, h1, ⟨h3, Snap.le.refl _, hH, fun _ _ h => .inl h⟩, h2, hH, hD.apart⟩
theorem mk_Bytes {H : Snap} {g : Nat} (w : World) (hD : DeckIn w g H) (n : Int) (hn : 0 ≤ n) (hn2 : n ≤ 1048576) :
  Calls Tryz.prog 16 #[.pointer (some ⟨g, 0, none⟩), .int .i64 n] w fun e w' =>
   ∃ A c l, e = .returned (.slice A l.length c) ∧ (l.length : Int) ≤ n ∧ ∃ H', IsBytes H' A c l ∧ Dealt w H w' H' g := by
 have NX := Hh (deck_Next w hD (n + 1) (by omega) (by omega));have K0 : IntKind.i64.wrap (n + 1) = n + 1 := IntWalk.i64_in _ (by omega);have hgl := hD.deck.lt;have HN := Hh (And.intro hn hn2);have HD := Hh hD;clear hn hn2 hD;go_enter Tryz.func16, Tryz.ntmps16
 go_wp2_with fail
 refine NX.out.mono ?_
 rintro e w1 ⟨r, rfl, hr, hd1⟩
 have hO1 := OwnB.nil w1 w.heap.size;go_wp2_with fail
 go_loopw [5, 6] (fun v5 v6 wr => ∃ (k : Nat) (VA : Option Addr) (vc vn : Nat) (l : List UInt8), v6 = .int .i64 (k : Int) ∧ v5 = .slice VA vn vc ∧ OwnB wr w.heap.size (.slice VA vn vc) l ∧ vn = l.length ∧ (l.length : Int) + k ≤ n ∧ Dealt w H wr H g ∧ (∀ q, (Value.slice VA vn vc).ownBlock = some q → H q = none)) (fun _ v6 _ => (intOf v6).toNat)
 case atStart => exact ⟨r, _, _, _, _, rfl, rfl, hO1, rfl, by simp; omega, hd1, by intro q hq; simp [Value.ownBlock] at hq⟩
 case round =>
  obtain ⟨k, VA, vc, vn, l, rfl, rfl, hOr, hvn, hlk, hdr, hnr⟩ := hrel;have HV := Hh hvn;have HLK := Hh hlk;clear hvn hlk
  by_cases hlt : (0 : Int) < (k : Int)
  ·have NX := Hh (deck_Next wr hdr.deck 256 (by omega) (by omega));go_wp2_with fail
   refine NX.out.mono ?_
   rintro e w2 ⟨q, rfl, hq, hd2⟩
   have hd := hdr.trans hd2;have hO2 := hOr.dealt hd2 hgl;have K1 : IntKind.u8.wrap (q : Int) = (q : Int) := IntWalk.u8_in _ (by omega);have hO3 := hO2.alloc (.cells #[.int .u8 (q : Int)] 5);have hd3 := hd.alloc (.cells #[.int .u8 (q : Int)] 5)
   have HC : Hid ((#[.int .u8 (q : Int)] : Array Value).toList = [u8 q].map byteV) := by
    simp only [Hid, List.map_cons, List.map_nil, byteV_u8]
    congr 2
    omega
   have hk1 : (-9223372036854775808 : Int) ≤ (k : Int) - 1 ∧ (k : Int) - 1 ≤ 9223372036854775807 := by have := HLK.out; have := HN.out; omega
   clear hq NX hdr hOr hd2 hO2 hd;go_wp2_with (at_builtin; refine stop_in ?_)
   unfold Stopped
   obtain rfl := HV.out
   refine wpList_app_bytes rfl (.tmp 15) (.tmp 19) rfl w.heap.size (.slice VA l.length vc) _ rfl hO3 _ 1 _ [u8 q] rfl rfl (Src.new _ _ _ _ rfl _ HC.out) (by have := HLK.out; have := HN.out; simp; omega) hd3.size fun v' w7 hO7 hg7 hat7 => ?_
   obtain ⟨VA', vc', rfl, _⟩ := hO7.form;have hd7 := hd3.grownRow hnr (fun q hq => (hO3.lt q hq).1) hgl hg7
   have hn7 : ∀ q', (Value.slice VA' (l ++ [u8 q]).length vc').ownBlock = some q' → H q' = none := fun q' hq' => by
    rcases hat7 with h | ⟨g', h1, h2⟩
    ·exact hnr q' (by rw [← h, hq'])
    ·rw [hq'] at h1;injection h1 with h1
     subst h1
     exact hd3.holds.none_of_ge h2
   have hl9 : (l ++ [u8 q]).length = l.length + 1 := by simp
   rw [hl9] at hO7 hn7;rw [hl9];clear hl9;have hk2 : IntKind.i64.wrap ((k : Int) - 1) = (k : Int) - 1 := IntWalk.i64_in _ hk1;clear hO3 hg7 hat7 hd3 hk1;go_wp2_with fail
   go_roundw
   case rel => exact ⟨k - 1, VA', vc', _, _, by rw [show ((k - 1 : Nat) : Int) = (k : Int) - 1 by omega], rfl, hO7, by simp, by have := HLK.out; simp; omega, hd7, hn7⟩
   case measure => simp [intOf]; omega
  ·go_wp2_with fail
   obtain rfl := HV.out;obtain ⟨H', hl8, hh8, hf8, hz8, hi8⟩ := hOr.snap hdr.holds (fun q hq => hnr q (by cases VA <;> simp_all [Value.ownBlock]));have hG : Grows wr H wr H' → True := fun _ => trivial
   go_ret
   refine ⟨VA, vc, l, rfl, by have := HLK.out; omega, H', hi8, ⟨⟨hdr.grows.grown, hl8, hh8, fun b o hb => ?_⟩, hdr.deck.deck.mono hl8, hh8, ?_⟩⟩
   ·rcases hf8 b o hb with h | h
    ·exact .inl h
    ·exact .inr (hOr.lt b (by cases VA <;> simp_all [Value.ownBlock])).1
   ·cases hH : H' g with
    | none => rfl
    | some o =>
     rcases hf8 g o hH with h | h
     ·rw [HD.out.apart] at h; cases h
     ·have := (hOr.lt g (by cases VA <;> simp_all [Value.ownBlock])).1
      omega
def isU64 : Value → Bool | .int .u64 x => decide (0 ≤ x) && decide (x < 18446744073709551616) | _ => false
def isI64 : Value → Bool | .int .i64 x => decide (-1000 ≤ x) && decide (x ≤ 1000) | _ => false
theorem isI64_spec {v : Value} (h : isI64 v = true) : ∃ x : Int, v = .int .i64 x ∧ -1000 ≤ x ∧ x ≤ 1000 := by
 unfold isI64 at h
 split at h
 ·rename_i x
  rw [Bool.and_eq_true, decide_eq_true_eq, decide_eq_true_eq] at h
  exact ⟨x, rfl, h.1, h.2⟩
 ·cases h
theorem Blk.pick {w : World} {g : Nat} {t : TypeId} {cs : Array Value} (h : Blk w g t cs) (P : Value → Bool) (hall : cs.all P = true) (k : Nat) (hk : k < cs.size) : ∃ v, w.cell? ⟨g, k, none⟩ = some v ∧ P v = true :=
 ⟨cs[k], h.cell k (Array.getElem?_eq_getElem hk), by rw [Array.all_eq_true] at hall; exact hall k hk⟩
section
variable {w w' : World} {base : Nat} {H : Snap} {l : List Itm}
theorem OwnI.parts {A : Option Addr} {m c : Nat} (h : OwnI w base (.slice A m c) H l) (k : Nat) : ∃ cs1 cs2, ItemsC H cs1 (l.take k) ∧ ItemsC H cs2 (l.drop k) ∧ Src w A cs1 ∧ (k < l.length → ∃ b off, A = some ⟨b, off, none⟩ ∧ Src w (some ⟨b, off + k * 4, none⟩) cs2) := by
 obtain ⟨cs, hc, ho⟩ := h;have hs := Src.of_own ho;obtain ⟨h1, h2⟩ := hc.split k
 refine ⟨_, _, h1, h2, fun hne => ?_, fun hk => ?_⟩
 ·obtain ⟨b, off, e, hx⟩ := hs (by rintro rfl; simp at hne)
  exact ⟨b, off, e, fun j v hj => hx j v (by rw [List.getElem?_take] at hj; split at hj; exact hj; cases hj)⟩
 ·obtain ⟨b, off, e, hx⟩ := hs (by rintro rfl; have := hc.len; simp at this; omega)
  refine ⟨b, off, e, fun _ => ⟨b, off + k * 4, rfl, fun j v hj => ?_⟩⟩
  rw [List.getElem?_drop] at hj;rw [Nat.add_assoc]
  exact hx _ v hj
theorem OwnI.cells {A : Option Addr} {m c : Nat} (h : OwnI w base (.slice A m c) H l) (k : Nat) (hk : k < l.length) : ∃ b off, A = some ⟨b, off, none⟩ ∧ ∃ ba bc ia ic, w.cell? ⟨b, off + k * 4, none⟩ = some (.int .i64 l[k].kind) ∧ w.cell? ⟨b, off + k * 4 + 1, none⟩ = some (.int .u64 l[k].n) ∧
  w.cell? ⟨b, off + k * 4 + 2, none⟩ = some (.slice ba l[k].bytes.length bc) ∧ w.cell? ⟨b, off + k * 4 + 3, none⟩ = some (.slice ia l[k].items.length ic) ∧ IsItem H ba bc ia ic l[k] := by
 obtain ⟨cs, hc, ho⟩ := h;obtain ⟨b, off, e, hx⟩ := Src.of_own ho (by rintro rfl; have := hc.len; simp at this; omega);obtain ⟨ba, bc, ia, ic, h0, h1, h2, h3, hi⟩ := hc.get k hk
 exact ⟨b, off, e, ba, bc, ia, ic, hx _ _ h0, hx _ _ h1, hx _ _ h2, hx _ _ h3, hi⟩
end
theorem cell_below {w w' : World} {a : Addr} {v : Value} (h : w.cell? a = some v) (hb : Below w.heap.size w w') : w'.cell? a = some v := (hb.cell (World.block_lt_of_cell? w _ h)).trans h
theorem cell_drew {w : World} {a : Addr} {v : Value} (h : w.cell? a = some v) : w.drew.cell? a = some v := h
theorem OwnI.drew {w : World} {base : Nat} {v : Value} {H : Snap} {l : List Itm} (h : OwnI w base v H l) : OwnI w.drew base v H l := h
theorem own_of {A : Option Addr} {m c q : Nat} (h : A.map (·.block) = some q) : (Value.slice A m c).ownBlock = some q := by cases A <;> simp_all [Value.ownBlock]
theorem Src.slicek {w : World} {H : Snap} {A : Option Addr} {cs : List Value} {L : List Itm} {k j vc : Nat} (h : k < L.length → ∃ b off, A = some ⟨b, off, none⟩ ∧ Src w (some ⟨b, off + k * 4, none⟩) cs) (hc : ItemsC H cs (L.drop k)) (hL : L.length = j) (hvc : (j : Int) ≤ vc) :
  Src w (if vc = k then A else Option.map (fun x => x.add (k * 4)) A) cs := by
 by_cases hk : k < L.length
 ·obtain ⟨b, off, rfl, hs⟩ := h hk;rw [if_neg (by omega), Option.map_some, addr_add]
  exact hs
 ·rw [List.drop_eq_nil_of_le (by omega), ItemsC] at hc;subst hc
  exact Src.nil _ _
theorem below_src {B : Nat} {w wr : World} (_h : Below B w wr) (t : TypeId) (cs : Array Value) : Src (wr.alloc (.cells cs t)) (some ⟨wr.heap.size, 0, none⟩) cs.toList := Src.lit _ _ _
theorem encL_put (L : List Itm) (k : Nat) (y z : Itm) : (encL (L.take k ++ [y, z] ++ L.drop k)).length = (encL L).length + (encB y).length + (encB z).length := by
 have h := congrArg List.length (encL_append (L.take k) (L.drop k));rw [List.take_append_drop] at h;rw [encL_append, encL_append]
 simp only [encL, List.length_append, List.append_nil] at h ⊢
 omega
theorem Dealt.gb {w w' w'' : World} {H H' : Snap} {g k : Nat} (h : Dealt w H w' H' g) (h0 : H' k = none) (hw : w.heap.size ≤ k) (hlt : g < w.heap.size) (hg : w'.grownBy w'' (some k)) : Dealt w H w'' H' g := h.grownRow (row := some k) (by rintro q ⟨⟩; exact h0) (by rintro q ⟨⟩; exact hw) hlt hg
end Go.Proofs.YtmacemcajlgddaaGreatDoor
