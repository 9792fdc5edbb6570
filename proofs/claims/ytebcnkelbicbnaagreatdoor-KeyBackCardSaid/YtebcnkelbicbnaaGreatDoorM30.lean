/- Walks: the item of a key and its encoding, by the program and by the reference. Walks: bytes, with something changed. Walks: the deck's seed. Walks: the deck's bytes, as a row of the call's own. -/
import Derived.Test.YtebcnkelbicbnaaGreatDoorM23
import Derived.Test.YtebcnkelbicbnaaGreatDoorM25
import Derived.Test.YtebcnkelbicbnaaGreatDoorM02
import Derived.Test.YtebcnkelbicbnaaGreatDoorM08
import Derived.Test.YtebcnkelbicbnaaGreatDoorM29
import Derived.Test.YtebcnkelbicbnaaGreatDoorM22
import Derived.Test.YtebcnkelbicbnaaGreatDoorM26
set_option linter.unusedVariables false
set_option linter.unusedSimpArgs false
namespace Go.Proofs.YtebcnkelbicbnaaGreatDoor
open Go.RowKit

/-- Where the four byte strings of a key lie. -/
structure KAd where
  ia : Option Addr
  ic : Nat
  xa : Option Addr
  xc : Nat
  da : Option Addr
  dc : Nat
  ka : Option Addr
  kc : Nat
abbrev keyQ (q : Ky) (a : KAd) : Array Value := keyC q.kty q.crv q.alg a.ia q.kid.length a.ic a.xa q.x.length a.xc a.da q.d.length a.dc a.ka q.k.length a.kc
structure KeyA (H : Snap) (q : Ky) (a : KAd) : Prop where
  kty : -9223372036854775808 ≤ q.kty ∧ q.kty ≤ 9223372036854775807
  crv : -9223372036854775808 ≤ q.crv ∧ q.crv ≤ 9223372036854775807
  alg : -9223372036854775808 ≤ q.alg ∧ q.alg ≤ 9223372036854775807
  kid : IsBytes H a.ia a.ic q.kid
  x : IsBytes H a.xa a.xc q.x
  d : IsBytes H a.da a.dc q.d
  k : IsBytes H a.ka a.kc q.k
theorem KeyA.mono {H K : Snap} {q : Ky} {a : KAd} (h : KeyA H q a) (hl : H.le K) : KeyA K q a := ⟨h.kty, h.crv, h.alg, h.kid.mono hl, h.x.mono hl, h.d.mono hl, h.k.mono hl⟩
theorem KeyA.len {H : Snap} {q : Ky} {a : KAd} (h : KeyA H q a) : q.x.length ≤ 9223372036854775807 ∧ q.d.length ≤ 9223372036854775807 := ⟨Nat.le_trans h.x.le h.x.max, Nat.le_trans h.d.le h.d.max⟩
theorem validN_eq (q : Ky) : validN q.kty q.crv q.alg q.kid.length q.x.length q.d.length q.k.length = validK q := rfl
theorem pairsL_eq (q : Ky) : pairsL q.kty q.crv q.alg q.kid q.x q.d q.k = pairsK q := rfl
def codeK (q : Ky) : Int := if validK q = true then 0 else 1
def itmK (q : Ky) : Itm := if validK q = true then itemK q else zeroItm
def ToOut (w : World) (H : Snap) (q : Ky) (e : Ending) (w' : World) : Prop := ∃ v, e = .returned (.tuple #[v, .int .i64 (codeK q)]) ∧ Gives w H (itmK q) v w'
def EncOut (w : World) (q : Ky) (e : Ending) (w' : World) : Prop := ∃ r l, e = .returned (.tuple #[r, .int .i64 (codeK q)]) ∧ Fresh w l r w' ∧ l = if validK q = true then encB (itemK q) else []
theorem validK_len {q : Ky} (h : validK q = true) : q.kid.length ≤ 64 ∧ q.x.length ≤ 64 ∧ q.d.length ≤ 64 ∧ q.k.length ≤ 64 := by
  have := (validK_iff q).1 h
  omega
theorem validK_k {q : Ky} (h : validK q = true) (h4 : q.kty = 4) : 0 < q.k.length := by
  have := (validK_iff q).1 h
  omega
theorem pairsK_len4 {q : Ky} (h : validK q = true) : 4 ≤ (pairsK q).length := by
  have h1 := (validK_iff q).1 h
  by_cases h4 : q.kty = 4
  · have hk : 0 < q.k.length := validK_k h h4
    simp only [pairsK, if_pos h4]
    rw [show optS (-1) q.k = [intP (-1), strI q.k] from if_pos hk]
    simp only [List.length_append, List.length_cons, List.length_nil]
    omega
  · simp only [pairsK, if_neg h4]
    simp only [List.length_append, List.length_cons, List.length_nil]
    omega
theorem IsRowI.of {H : Snap} {A : Option Addr} {c : Nat} {l : List Itm} (h : l.length ≤ c ∧ c ≤ 9223372036854775807 ∧ (0 < l.length → ∃ b off, A = some ⟨b, off, none⟩ ∧ IsElems H b off l)) : IsRowI H A c l := ⟨h.1, h.2.1, h.2.2⟩
set_option maxRecDepth 100000 in
set_option maxHeartbeats 12800000 in
theorem key_ToItem {H : Snap} (hTab : Tabs H) {q : Ky} {a : KAd} (hq : KeyA H q a) (w : World) (hH : Holds w H) :
    Calls Tryz.prog 23 #[.agg (keyQ q a)] w (ToOut w H q) := by
  have hB1 := (Blk.new w 33 (keyQ q a)).alloc (.cells zeroC 26)
  have hT := Blk.new (w.alloc (.cells (keyQ q a) 33)) 26 zeroC
  rw [size_alloc] at hT
  have hTn : H (w.heap.size + 1) = none := hH.none_of_ge (by omega)
  have hG1 := ((Grows.refl hH).alloc (.cells (keyQ q a) 33)).alloc (.cells zeroC 26)
  have V := Lib.hid (fun W => key_ValidN q.kty q.crv q.alg a.ia q.kid.length a.ic a.xa q.x.length a.xc a.da q.d.length a.dc a.ka q.k.length a.kc W hq.len.1 hq.len.2)
  have HQ := Lib.hid hq
  have c0 := hB1.cell 0 rfl
  have c1 := hB1.cell 1 rfl
  have c2 := hB1.cell 2 rfl
  have c3 := hB1.cell 3 rfl
  have c4 := hB1.cell 4 rfl
  have c5 := hB1.cell 5 rfl
  have c6 := hB1.cell 6 rfl
  clear hq hH
  go_enter Tryz.func23, Tryz.ntmps23
  go_wp2_with fail
  refine (V.out _).mono ?_
  rintro e w3 ⟨rfl, hb3⟩
  rw [validN_eq]
  replace hT := hT.below hb3
  replace hB1 := hB1.below hb3
  have hG3 := hG1.below_ hb3
  clear hG1 hb3 V c0 c1 c2 c3 c4 c5 c6
  have c0 := hB1.cell 0 rfl
  have c1 := hB1.cell 1 rfl
  have c2 := hB1.cell 2 rfl
  have c3 := hB1.cell 3 rfl
  have c4 := hB1.cell 4 rfl
  have c5 := hB1.cell 5 rfl
  have c6 := hB1.cell 6 rfl
  clear hB1
  cases hv : validK q with
  | false =>
    have E : Hid (codeK q = 1 ∧ itmK q = zeroItm) := ⟨by rw [codeK, if_neg (by rw [hv]; simp)], by rw [itmK, if_neg (by rw [hv]; simp)]⟩
    clear hv
    go_wp2_with (with_reducible refine stop_store ?_)
    unfold Stopped
    refine wpList_store_item rfl _ _ _ rfl rfl _ _ rfl rfl _ _ hT size_item rfl (one4 _ _ _ _ rfl rfl rfl rfl) fun w9 hT9 hg9 => ?_
    have hG9 := hG3.grownOwn hTn (by omega) hg9
    go_wp2_with fail
    refine ret_row_tmp rfl rfl hT9 rfl rfl size_item rfl ?_
    exact ⟨_, by rw [E.out.1]; rfl, by rw [E.out.2]; exact ⟨none, 0, none, 0, H, rfl, hG9, IsItem.plain H 0 0 (by omega) (by omega)⟩⟩
  | true =>
    have E : Hid (codeK q = 0 ∧ itmK q = .mk 5 0 [] (pairsK q)) := ⟨by rw [codeK, if_pos hv], by rw [itmK, if_pos hv]; rfl⟩
    have HV := Lib.hid hv
    clear hv
    go_wp2_with fail
    refine (key_pairs q.kty q.crv q.alg HQ.out.kty HQ.out.crv HQ.out.alg HQ.out.kid HQ.out.x HQ.out.d HQ.out.k (validK_len HV.out) _ hG3.holds).mono ?_
    rintro e w4 ⟨v4, rfl, A4, c9, H4, rfl, hG4, hr4⟩
    rw [pairsL_eq] at hr4 ⊢
    have hG5 := hG3.trans hG4
    have hTn4 := hG4.none hTn hT.lt
    replace hT := hT.below hG4.below
    have HR4 := Lib.hid (IsRowI.of hr4)
    have HB := Lib.hid (cbor_Build (hTab.mono hG5.le) HR4.out (pairsK_even q) (pairsK_len4 HV.out) (by have := (pairsK_len q).2; omega) (asc_pairsK q) (validP_pairsK HV.out) (validP_itemK HV.out) w4 hG5.holds)
    clear hG4 hr4 hG3 c0 c1 c2 c3 c4 c5 c6
    go_wp2_with fail
    refine HB.out.mono ?_
    rintro e w6 ⟨v6, rfl, xa, xb, xc, xd, H6, rfl, hG6, hI6⟩
    have hG7 := hG5.trans hG6
    have hTn6 := hG6.none hTn4 hT.lt
    replace hT := hT.below hG6.below
    clear hG6 hG5 HB
    go_wp2_with (with_reducible refine stop_store ?_)
    unfold Stopped
    refine wpList_store_item rfl _ _ _ rfl rfl _ _ rfl rfl _ _ hT size_item rfl (one4 _ _ _ _ rfl rfl rfl rfl) fun w9 hT9 hg9 => ?_
    have hG9 := hG7.grownOwn hTn6 (by omega) hg9
    go_wp2_with fail
    refine ret_row_tmp rfl rfl hT9 rfl rfl size_item rfl ?_
    exact ⟨_, by rw [E.out.1]; rfl, by rw [E.out.2]; exact ⟨xa, xb, xc, xd, H6, rfl, hG9, hI6⟩⟩
set_option maxRecDepth 100000 in
set_option maxHeartbeats 12800000 in
theorem key_Encode {H : Snap} (hTab : Tabs H) {q : Ky} {a : KAd} (hq : KeyA H q a) (w : World) (hH : Holds w H) :
    Calls Tryz.prog 24 #[.agg (keyQ q a)] w (EncOut w q) := by
  have hG1 := (Grows.refl hH).alloc (.cells (keyQ q a) 33)
  have hB1 := Blk.new w 33 (keyQ q a)
  have TI := Lib.hid (fun W hW => key_ToItem hTab hq W hW)
  have c0 := hB1.cell 0 rfl
  have c1 := hB1.cell 1 rfl
  have c2 := hB1.cell 2 rfl
  have c3 := hB1.cell 3 rfl
  have c4 := hB1.cell 4 rfl
  have c5 := hB1.cell 5 rfl
  have c6 := hB1.cell 6 rfl
  clear hq hB1 hH
  go_enter Tryz.func24, Tryz.ntmps24
  go_wp2_with fail
  refine (TI.out _ hG1.holds).mono ?_
  rintro e w3 ⟨v3, rfl, xa, xb, xc, xd, H3, rfl, hG3, hI3⟩
  have hG4 := hG1.trans hG3
  clear hG1 hG3 TI c0 c1 c2 c3 c4 c5 c6
  cases hv : validK q with
  | false =>
    have E : Hid (codeK q = 1) := by rw [Hid, codeK, if_neg (by rw [hv]; simp)]
    have HV := Lib.hid hv
    rw [E.out]
    clear hv
    go_wp2_with fail
    go_ret2
    exact ⟨_, [], by rw [E.out]; rfl, ⟨OwnB.nil _ _, by first | exact hG4.below | exact (hG4.alloc _).below⟩, by rw [HV.out]; rfl⟩
  | true =>
    have E : Hid (codeK q = 0) := by rw [Hid, codeK, if_pos hv]
    have E2 : Hid (itmK q = itemK q) := by rw [Hid, itmK, if_pos hv]
    have HV := Lib.hid hv
    rw [E.out]
    rw [E2.out] at hI3 ⊢
    obtain ⟨x, hx⟩ : ∃ x, itemK q = x := ⟨_, rfl⟩
    have HX := Lib.hid hx
    have HVP := Lib.hid (validP_itemK HV.out)
    rw [hx] at hI3 ⊢
    rw [HX.out] at HVP
    have EN := Lib.hid (fun W (hW : Holds W H3) => cbor_Encode (hTab.mono hG4.le) hI3.arg W hW)
    have hG5 := hG4.alloc (itemO x xa xb xc xd)
    clear hv hx
    go_wp2_with fail
    refine (EN.out _ hG5.holds).mono ?_
    rintro e w5 (⟨hno, _⟩ | ⟨_, r5, rfl, hf5⟩)
    · rw [HVP.out] at hno; cases hno
    · have hb := hG5.below.trans (hf5.2.mono hG5.size)
      have ho := hf5.own.more (base' := w.heap.size) hG5.size
      clear hf5 hG5 hG4 hI3 EN
      go_wp2_with fail
      go_ret2
      exact ⟨_, encB x, by rw [E.out]; rfl, ⟨ho, hb⟩, by rw [HV.out, HX.out]; rfl⟩
end Go.Proofs.YtebcnkelbicbnaaGreatDoor
namespace Go.Proofs.YtebcnkelbicbnaaGreatDoor
open Go.RowKit

theorem byte_wrap (v : Int) : ∃ x : UInt8, Value.int .u8 (IntKind.u8.wrap v) = byteV x := by
  refine ⟨UInt8.ofNat (v % 256).toNat, ?_⟩
  have h : (v % 256).toNat < 256 := by omega
  rw [IntKind.wrap_u8, byteV, UInt8.toNat_ofNat_of_lt' (by simpa using h)]
  congr 1
  omega
end Go.Proofs.YtebcnkelbicbnaaGreatDoor
namespace Go.Proofs.YtebcnkelbicbnaaGreatDoor
open Go.RowKit

set_option maxRecDepth 100000 in
set_option maxHeartbeats 6400000 in
theorem mk_Seed (n : Int) (w : World) :
    Calls Tryz.prog 28 #[.int .i64 n] w fun e w' => ∃ A c l, e = .returned (.slice A 32 c) ∧ l.length = 32 ∧ Fresh w l (.slice A 32 c) w' := by
  have hb1 := Below.refl w.heap.size w
  go_enter Tryz.func28, Tryz.ntmps28
  go_wp2_with fail
  go_loopw [3, 5] (fun v3 v5 wr => ∃ (k : Nat) (VA : Option Addr) (vc vn : Nat) (l : List UInt8), k ≤ 32 ∧ v5 = .int .i64 (k : Int) ∧ v3 = .slice VA vn vc ∧ vn = k ∧ l.length = k ∧ OwnB wr w.heap.size (.slice VA vn vc) l ∧ Below w.heap.size w wr) (fun _ v5 _ => 32 - (intOf v5).toNat)
  case atStart => exact ⟨0, none, 0, 0, [], by omega, rfl, rfl, rfl, rfl, OwnB.nil _ _, hb1⟩
  case round =>
    clear hb1
    obtain ⟨k, VA, vc, vn, l, hk, rfl, rfl, hvn, hlk, hOr, hbr⟩ := hrel
    have HK := Lib.hid hk
    have HV := Lib.hid (And.intro hvn hlk)
    clear hk hvn hlk
    by_cases hlt : k < 32
    · have hki : (k : Int) < 32 := by omega
      have hkd : decide ((k : Int) < 32) = true := decide_eq_true hki
      have hkn : decide (k < 32) = true := decide_eq_true hlt
      have HLT := Lib.hid hlt
      go_wp2_with (at_builtin; refine stop_in ?_)
      unfold Stopped
      obtain ⟨x, hx⟩ : ∃ x : UInt8, Value.int .u8 (bits BinOp.xor IntKind.u8 (IntKind.u64.wrap n / 2 ^ (8 * (k % 8)) % 256) (37 * ((k : Int) / 8))) = byteV x := byte_wrap _
      generalize bits BinOp.xor IntKind.u8 (IntKind.u64.wrap n / 2 ^ (8 * (k % 8)) % 256) (37 * ((k : Int) / 8)) = v at hx ⊢
      have HC : Hid ((#[.int .u8 v] : Array Value).toList = [x].map byteV) := by simp [Hid, ← hx]
      have hO1 := hOr.alloc (.cells #[.int .u8 v] 5)
      have hb2 := hbr.alloc hbr.size (.cells #[.int .u8 v] 5)
      refine wpList_app_bytes rfl (.tmp 8) (.tmp 22) rfl w.heap.size (.slice VA vn vc) l rfl hO1 _ 1 _ [x] rfl rfl (Src.new _ _ _ _ rfl _ HC.out) (by have := HV.out; have := HK.out; simp; omega) hb2.size fun v' w7 hO7 hg7 hat7 => ?_
      have hb7 := hb2.grown hg7 hb2.size (fun q hq => (hO1.lt q hq).1)
      obtain ⟨VA', vc', rfl, hjunk⟩ := hO7.form
      clear hjunk hg7 hat7 hx hO1 hb2 hOr hbr
      obtain ⟨m, hm⟩ : ∃ m, l ++ [x] = m := ⟨_, rfl⟩
      have HM : Hid (m.length = k + 1) := by have := HV.out; rw [Hid, ← hm, List.length_append]; simp; omega
      rw [hm] at hO7 ⊢
      clear hm
      go_wp2_with fail
      go_roundw
      case rel => exact ⟨k + 1, VA', vc', _, m, by have := HLT.out; omega, by go_num, rfl, HM.out, HM.out, hO7, hb7⟩
      case measure => have := HLT.out; simp [intOf]; omega
    · have hki : ¬ ((k : Int) < 32) := by omega
      have hkd : decide ((k : Int) < 32) = false := decide_eq_false hki
      have hkn : decide (k < 32) = false := decide_eq_false hlt
      have hk32 : k = 32 := by have := HK.out; omega
      have HL : Hid (l.length = 32) := by have := HV.out; rw [Hid]; omega
      obtain rfl : vn = 32 := by have := HV.out; omega
      clear hlt hk32
      go_wp2_with fail
      go_ret
      exact ⟨VA, vc, rfl, l, HL.out, hOr, hbr⟩
end Go.Proofs.YtebcnkelbicbnaaGreatDoor
namespace Go.Proofs.YtebcnkelbicbnaaGreatDoor
open Go.RowKit

set_option maxRecDepth 100000 in
set_option maxHeartbeats 1600000 in
theorem mk_BytesOwn {H : Snap} {g : Nat} (w : World) (hD : DeckIn w g H) (n : Int) (hn : 0 ≤ n) (hn2 : n ≤ 1048576) :
    Calls Tryz.prog 26 #[.pointer (some ⟨g, 0, none⟩), .int .i64 n] w fun e w' =>
∃ A c n' l, e = .returned (.slice A n' c) ∧ n' = l.length ∧ (l.length : Int) ≤ n ∧ OwnB w' w.heap.size (.slice A n' c) l ∧ (∀ q, (Value.slice A n' c).ownBlock = some q → H q = none) ∧ Dealt w H w' H g := by
  have NX := Lib.hid (deck_Next w hD (n + 1) (by omega) (by omega))
  have K0 : IntKind.i64.wrap (n + 1) = n + 1 := IntWalk.i64_in _ (by omega)
  have hgl := hD.deck.lt
  have HN := Lib.hid (And.intro hn hn2)
  have HD := Lib.hid hD
  clear hn hn2 hD
  go_enter Tryz.func26, Tryz.ntmps26
  go_wp2_with fail
  refine NX.out.mono ?_
  rintro e w1 ⟨r, rfl, hr, hd1⟩
  have hO1 := OwnB.nil w1 w.heap.size
  go_wp2_with fail
  go_loopw [5, 6] (fun v5 v6 wr => ∃ (k : Nat) (VA : Option Addr) (vc vn : Nat) (l : List UInt8), v6 = .int .i64 (k : Int) ∧ v5 = .slice VA vn vc ∧ OwnB wr w.heap.size (.slice VA vn vc) l ∧ vn = l.length ∧ (l.length : Int) + k ≤ n ∧ Dealt w H wr H g ∧ (∀ q, (Value.slice VA vn vc).ownBlock = some q → H q = none)) (fun _ v6 _ => (intOf v6).toNat)
  case atStart => exact ⟨r, _, _, _, _, rfl, rfl, hO1, rfl, by simp; omega, hd1, by intro q hq; simp [Value.ownBlock] at hq⟩
  case round =>
    obtain ⟨k, VA, vc, vn, l, rfl, rfl, hOr, hvn, hlk, hdr, hnr⟩ := hrel
    have HV := Lib.hid hvn
    have HLK := Lib.hid hlk
    clear hvn hlk
    by_cases hlt : (0 : Int) < (k : Int)
    · have NX := Lib.hid (deck_Next wr hdr.deck 256 (by omega) (by omega))
      go_wp2_with fail
      refine NX.out.mono ?_
      rintro e w2 ⟨q, rfl, hq, hd2⟩
      have hd := hdr.trans hd2
      have hO2 := hOr.dealt hd2 hgl
      have K1 : IntKind.u8.wrap (q : Int) = (q : Int) := IntWalk.u8_in _ (by omega)
      have hO3 := hO2.alloc (.cells #[.int .u8 (q : Int)] 5)
      have hd3 := hd.alloc (.cells #[.int .u8 (q : Int)] 5)
      have HC : Hid ((#[.int .u8 (q : Int)] : Array Value).toList = [u8 q].map byteV) := by
        simp only [Hid, List.map_cons, List.map_nil, byteV_u8]
        congr 2
        omega
      have hk1 : (-9223372036854775808 : Int) ≤ (k : Int) - 1 ∧ (k : Int) - 1 ≤ 9223372036854775807 := by have := HLK.out; have := HN.out; omega
      clear hq NX hdr hOr hd2 hO2 hd
      go_wp2_with (at_builtin; refine stop_in ?_)
      unfold Stopped
      obtain rfl := HV.out
      refine wpList_app_bytes rfl (.tmp 15) (.tmp 19) rfl w.heap.size (.slice VA l.length vc) _ rfl hO3 _ 1 _ [u8 q] rfl rfl (Src.new _ _ _ _ rfl _ HC.out) (by have := HLK.out; have := HN.out; simp; omega) hd3.size fun v' w7 hO7 hg7 hat7 => ?_
      obtain ⟨VA', vc', rfl, _⟩ := hO7.form
      have hd7 := hd3.grownRow hnr (fun q hq => (hO3.lt q hq).1) hgl hg7
      have hn7 : ∀ q', (Value.slice VA' (l ++ [u8 q]).length vc').ownBlock = some q' → H q' = none := fun q' hq' => by
        rcases hat7 with h | ⟨g', h1, h2⟩
        · exact hnr q' (by rw [← h, hq'])
        · rw [hq'] at h1
          injection h1 with h1
          subst h1
          exact hd3.holds.none_of_ge h2
      have hl9 : (l ++ [u8 q]).length = l.length + 1 := by simp
      rw [hl9] at hO7 hn7
      rw [hl9]
      clear hl9
      have hk2 : IntKind.i64.wrap ((k : Int) - 1) = (k : Int) - 1 := IntWalk.i64_in _ hk1
      clear hO3 hg7 hat7 hd3 hk1
      go_wp2_with fail
      go_roundw
      case rel => exact ⟨k - 1, VA', vc', _, _, by rw [show ((k - 1 : Nat) : Int) = (k : Int) - 1 by omega], rfl, hO7, by simp, by have := HLK.out; simp; omega, hd7, hn7⟩
      case measure => simp [intOf]; omega
    · go_wp2_with fail
      go_ret
      exact ⟨VA, vc, vn, rfl, l, HV.out, by have := HLK.out; omega, hOr, hnr, hdr⟩
end Go.Proofs.YtebcnkelbicbnaaGreatDoor
