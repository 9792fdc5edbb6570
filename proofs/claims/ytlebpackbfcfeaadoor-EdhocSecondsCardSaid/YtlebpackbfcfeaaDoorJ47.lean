/- squeezed. Walks: the deck's seed. Walks: all of a row are small. Walks: the deck's bytes, as a row of the call's own. Walks: the law of the second message. -/
import Derived.Test.YtlebpackbfcfeaaDoorJ43
import Derived.Test.YtlebpackbfcfeaaDoorJ46
import Derived.Test.YtlebpackbfcfeaaDoorJ44
set_option linter.unusedVariables false
set_option linter.unusedSimpArgs false
namespace Go.Proofs.YtlebpackbfcfeaaDoor
open Go.RowKit

set_option maxRecDepth 100000 in
set_option maxHeartbeats 6400000 in
theorem mk_Seed (n : Int) (w : World) :
   Calls Tryd.prog 29 #[.int .i64 n] w fun e w' => ∃ A c l, e = .returned (.slice A 32 c) ∧ l.length = 32 ∧ Fresh w l (.slice A 32 c) w' := by
 have hb1 := Below.refl w.heap.size w
 go_enter Tryd.func29, Tryd.ntmps29
 go_wp2_with fail
 go_loopw [3, 5] (fun v3 v5 wr => ∃ (k : Nat) (VA : Option Addr) (vc vn : Nat) (l : List UInt8), k ≤ 32 ∧ v5 = .int .i64 (k : Int) ∧ v3 = .slice VA vn vc ∧ vn = k ∧ l.length = k ∧ OwnB wr w.heap.size (.slice VA vn vc) l ∧ Below w.heap.size w wr) (fun _ v5 _ => 32 - (intOf v5).toNat)
 case atStart => exact ⟨0, none, 0, 0, [], by omega, rfl, rfl, rfl, rfl, OwnB.nil _ _, hb1⟩
 case round =>
   clear hb1
   obtain ⟨k, VA, vc, vn, l, hk, rfl, rfl, hvn, hlk, hOr, hbr⟩ := hrel
   have HK := Lib.hid hk
   have HV := Lib.hid (And.intro hvn hlk)
   clear hk hvn hlk
   by_cases hlt : k < 32
   · have hki : (k : Int) < 32 := by omega
     have hkd : decide ((k : Int) < 32) = true := decide_eq_true hki
     have hkn : decide (k < 32) = true := decide_eq_true hlt
     have HLT := Lib.hid hlt
     go_wp2_with (at_builtin; refine stop_in ?_)
     unfold Stopped
     obtain ⟨x, hx⟩ : ∃ x : UInt8, Value.int .u8 (bits BinOp.xor IntKind.u8 (IntKind.u64.wrap n / 2 ^ (8 * (k % 8)) % 256) (37 * ((k : Int) / 8))) = byteV x := byte_wrap _
     generalize bits BinOp.xor IntKind.u8 (IntKind.u64.wrap n / 2 ^ (8 * (k % 8)) % 256) (37 * ((k : Int) / 8)) = v at hx ⊢
     have HC : Hid ((#[.int .u8 v] : Array Value).toList = [x].map byteV) := by simp [Hid, ← hx]
     have hO1 := hOr.alloc (.cells #[.int .u8 v] 5)
     have hb2 := hbr.alloc hbr.size (.cells #[.int .u8 v] 5)
     refine wpList_app_bytes rfl (.tmp 8) (.tmp 22) rfl w.heap.size (.slice VA vn vc) l rfl hO1 _ 1 _ [x] rfl rfl (Src.new _ _ _ _ rfl _ HC.out) (by have := HV.out; have := HK.out; simp; omega) hb2.size fun v' w7 hO7 hg7 hat7 => ?_
     have hb7 := hb2.grown hg7 hb2.size (fun q hq => (hO1.lt q hq).1)
     obtain ⟨VA', vc', rfl, hjunk⟩ := hO7.form
     clear hjunk hg7 hat7 hx hO1 hb2 hOr hbr
     obtain ⟨m, hm⟩ : ∃ m, l ++ [x] = m := ⟨_, rfl⟩
     have HM : Hid (m.length = k + 1) := by have := HV.out; rw [Hid, ← hm, List.length_append]; simp; omega
     rw [hm] at hO7 ⊢
     clear hm
     go_wp2_with fail
     go_roundw
     case rel => exact ⟨k + 1, VA', vc', _, m, by have := HLT.out; omega, by go_num, rfl, HM.out, HM.out, hO7, hb7⟩
     case measure => have := HLT.out; simp [intOf]; omega
   · have hki : ¬ ((k : Int) < 32) := by omega
     have hkd : decide ((k : Int) < 32) = false := decide_eq_false hki
     have hkn : decide (k < 32) = false := decide_eq_false hlt
     have hk32 : k = 32 := by have := HK.out; omega
     have HL : Hid (l.length = 32) := by have := HV.out; rw [Hid]; omega
     obtain rfl : vn = 32 := by have := HV.out; omega
     clear hlt hk32
     go_wp2_with fail
     go_ret
     exact ⟨VA, vc, rfl, l, HL.out, hOr, hbr⟩
end Go.Proofs.YtlebpackbfcfeaaDoor
namespace Go.Proofs.YtlebpackbfcfeaaDoor
open Go.RowKit

set_option maxRecDepth 100000 in
set_option maxHeartbeats 6400000 in
theorem mk2_All {H : Snap} (w : World) (hH : Holds w H) {A : Option Addr} {n c : Nat} {l : List (List UInt8)} (hn : n = l.length) (hr : IsRow lieB H A c l) :
   Calls Tryd.prog 19 #[.slice A n c] w fun e w' => IsTruth e ∧ w' = w := by
 have HR := Lib.hid hr
 have HH := Lib.hid hH
 have HN := Lib.hid hn
 have SM := Lib.hid (fun (A : Option Addr) (n c : Nat) (w : World) => mk2_Small A n c w)
 clear hr hH hn
 go_enter Tryd.func19, Tryd.ntmps19
 go_wp2_with fail
 go_loopw [7] (fun v7 wr => ∃ k : Nat, k ≤ n ∧ v7 = .int .i64 (k : Int) ∧ wr = w) (fun v7 _ => n - (intOf v7).toNat)
 case atStart => exact ⟨0, Nat.zero_le _, rfl, rfl⟩
 case round =>
   obtain ⟨k, hk, rfl, rfl⟩ := hrel
   have HKK := Lib.hid hk
   clear hk
   by_cases hkl : k < n
   · have hki : (k : Int) < (n : Int) := by omega
     obtain ⟨b, off, rfl, hat⟩ := HR.out.at_ (by have := HN.out; omega)
     obtain ⟨d, hd, hc⟩ := hat k (by have := HN.out; omega)
     obtain ⟨YA, yc, rfl, hyb⟩ := hd
     obtain ⟨x, hx⟩ : ∃ x, l[k]'(by have := HN.out; omega) = x := ⟨_, rfl⟩
     rw [hx] at hc hyb
     have q0 := HH.out.cell (hc 0 _ rfl)
     rw [show off + (k * lieB.k + 0) = off + k from by show off + (k * 1 + 0) = _; omega] at q0
     have HK := Lib.hid hkl
     have hnc : (n : Int) ≤ (c : Int) := by have := HR.out.le; have := HN.out; omega
     have hk63 : (k : Int) + 1 ≤ 9223372036854775807 := by have h1 := HR.out.le; have h2 := HR.out.max; have := HN.out; omega
     clear hkl hat hc hx hyb
     go_wp2_with fail
     refine (SM.out _ _ _ _).mono ?_
     rintro e w4 ⟨⟨b', rfl, hjunk⟩, rfl⟩
     clear hjunk
     cases b' with
     | false =>
       go_wp2_with fail
       go_ret
       exact ⟨⟨false, rfl⟩, rfl⟩
     | true =>
       go_wp2_with fail
       go_roundw
       case rel => exact ⟨k + 1, HK.out, by go_num, by trivial⟩
       case measure => have := HK.out; simp [intOf]; omega
   · have hke : ¬ ((k : Int) < (n : Int)) := by omega
     have hke' : decide ((k : Int) < (n : Int)) = false := decide_eq_false hke
     clear hkl
     go_wp2_with fail
     go_ret
     exact ⟨⟨_, rfl⟩, rfl⟩
end Go.Proofs.YtlebpackbfcfeaaDoor
namespace Go.Proofs.YtlebpackbfcfeaaDoor
open Go.RowKit

set_option maxRecDepth 100000 in
set_option maxHeartbeats 1600000 in
theorem mk_BytesOwn {H : Snap} {g : Nat} (w : World) (hD : DeckIn w g H) (n : Int) (hn : 0 ≤ n) (hn2 : n ≤ 1048576) :
   Calls Tryd.prog 23 #[.pointer (some ⟨g, 0, none⟩), .int .i64 n] w fun e w' =>
∃ A c n' l, e = .returned (.slice A n' c) ∧ n' = l.length ∧ (l.length : Int) ≤ n ∧ OwnB w' w.heap.size (.slice A n' c) l ∧ (∀ q, (Value.slice A n' c).ownBlock = some q → H q = none) ∧ Dealt w H w' H g := by
 have NX := Lib.hid (deck_Next w hD (n + 1) (by omega) (by omega))
 have K0 : IntKind.i64.wrap (n + 1) = n + 1 := IntWalk.i64_in _ (by omega)
 have hgl := hD.deck.lt
 have HN := Lib.hid (And.intro hn hn2)
 have HD := Lib.hid hD
 clear hn hn2 hD
 go_enter Tryd.func23, Tryd.ntmps23
 go_wp2_with fail
 refine NX.out.mono ?_
 rintro e w1 ⟨r, rfl, hr, hd1⟩
 have hO1 := OwnB.nil w1 w.heap.size
 go_wp2_with fail
 go_loopw [5, 6] (fun v5 v6 wr => ∃ (k : Nat) (VA : Option Addr) (vc vn : Nat) (l : List UInt8), v6 = .int .i64 (k : Int) ∧ v5 = .slice VA vn vc ∧ OwnB wr w.heap.size (.slice VA vn vc) l ∧ vn = l.length ∧ (l.length : Int) + k ≤ n ∧ Dealt w H wr H g ∧ (∀ q, (Value.slice VA vn vc).ownBlock = some q → H q = none)) (fun _ v6 _ => (intOf v6).toNat)
 case atStart => exact ⟨r, _, _, _, _, rfl, rfl, hO1, rfl, by simp; omega, hd1, by intro q hq; simp [Value.ownBlock] at hq⟩
 case round =>
   obtain ⟨k, VA, vc, vn, l, rfl, rfl, hOr, hvn, hlk, hdr, hnr⟩ := hrel
   have HV := Lib.hid hvn
   have HLK := Lib.hid hlk
   clear hvn hlk
   by_cases hlt : (0 : Int) < (k : Int)
   · have NX := Lib.hid (deck_Next wr hdr.deck 256 (by omega) (by omega))
     go_wp2_with fail
     refine NX.out.mono ?_
     rintro e w2 ⟨q, rfl, hq, hd2⟩
     have hd := hdr.trans hd2
     have hO2 := hOr.dealt hd2 hgl
     have K1 : IntKind.u8.wrap (q : Int) = (q : Int) := IntWalk.u8_in _ (by omega)
     have hO3 := hO2.alloc (.cells #[.int .u8 (q : Int)] 5)
     have hd3 := hd.alloc (.cells #[.int .u8 (q : Int)] 5)
     have HC : Hid ((#[.int .u8 (q : Int)] : Array Value).toList = [u8 q].map byteV) := by
       simp only [Hid, List.map_cons, List.map_nil, byteV_u8]
       congr 2
       omega
     have hk1 : (-9223372036854775808 : Int) ≤ (k : Int) - 1 ∧ (k : Int) - 1 ≤ 9223372036854775807 := by have := HLK.out; have := HN.out; omega
     clear hq NX hdr hOr hd2 hO2 hd
     go_wp2_with (at_builtin; refine stop_in ?_)
     unfold Stopped
     obtain rfl := HV.out
     refine wpList_app_bytes rfl (.tmp 15) (.tmp 19) rfl w.heap.size (.slice VA l.length vc) _ rfl hO3 _ 1 _ [u8 q] rfl rfl (Src.new _ _ _ _ rfl _ HC.out) (by have := HLK.out; have := HN.out; simp; omega) hd3.size fun v' w7 hO7 hg7 hat7 => ?_
     obtain ⟨VA', vc', rfl, _⟩ := hO7.form
     have hd7 := hd3.grownRow hnr (fun q hq => (hO3.lt q hq).1) hgl hg7
     have hn7 : ∀ q', (Value.slice VA' (l ++ [u8 q]).length vc').ownBlock = some q' → H q' = none := fun q' hq' => by
       rcases hat7 with h | ⟨g', h1, h2⟩
       · exact hnr q' (by rw [← h, hq'])
       · rw [hq'] at h1
         injection h1 with h1
         subst h1
         exact hd3.holds.none_of_ge h2
     have hl9 : (l ++ [u8 q]).length = l.length + 1 := by simp
     rw [hl9] at hO7 hn7
     rw [hl9]
     clear hl9
     have hk2 : IntKind.i64.wrap ((k : Int) - 1) = (k : Int) - 1 := IntWalk.i64_in _ hk1
     clear hO3 hg7 hat7 hd3 hk1
     go_wp2_with fail
     go_roundw
     case rel => exact ⟨k - 1, VA', vc', _, _, by rw [show ((k - 1 : Nat) : Int) = (k : Int) - 1 by omega], rfl, hO7, by simp, by have := HLK.out; simp; omega, hd7, hn7⟩
     case measure => simp [intOf]; omega
   · go_wp2_with fail
     go_ret
     exact ⟨VA, vc, vn, rfl, l, HV.out, by have := HLK.out; omega, hOr, hnr, hdr⟩
end Go.Proofs.YtlebpackbfcfeaaDoor
namespace Go.Proofs.YtlebpackbfcfeaaDoor
open Go.RowKit

theorem decSecond_short {l a b : List UInt8} (h : decSecond l = .ok (a, b)) : a.length ≤ 632 ∧ b.length ≤ 632 := by
 unfold decSecond at h
 split at h
 · cases h
 · split at h
   · cases h
   · split at h
     · cases h
     · split at h
       · cases h
       · split at h
         · cases h
         · injection h with h
           injection h with h1 h2
           subst h1 h2
           rw [List.length_take, List.length_drop]
           omega
theorem encSecond_le {p q l : List UInt8} (h : encSecond p q = .ok l) : l.length ≤ 1000 := by
 unfold encSecond at h
 split at h
 · cases h
 · injection h with h
   subst h
   have := strB_le (p ++ q)
   rw [List.length_append] at this
   omega
set_option maxRecDepth 100000 in
set_option maxHeartbeats 25600000 in
theorem law24_seconds {H : Snap} (hTab : Tabs H) {A : Option Addr} {c : Nat} {l : List Int} (hl : IsInts H A c l) {PA : Option Addr} {pc : Nat} {p : List UInt8} (hp : IsBytes H PA pc p) {QA : Option Addr} {qc : Nat} {q : List UInt8} (hq : IsBytes H QA qc q) {BA : Option Addr} {bc : Nat} {b : List UInt8} (hb : IsBytes H BA bc b) (at_ by_ : Int) (w : World) (hH : Holds w H) :
   Calls Tryd.prog 5 #[.slice A l.length c, .slice PA p.length pc, .slice QA q.length qc, .slice BA b.length bc, .int .i64 at_, .int .i64 by_] w fun e w' => e = .returned (.bool true) ∧ Below w.heap.size w w' := by
 have HT := Lib.hid hTab
 have HL := Lib.hid hl
 have HP := Lib.hid hp
 have HQ := Lib.hid hq
 have HB := Lib.hid hb
 have HH := Lib.hid hH
 have AW := Lib.hid (fun (W : World) (h : Below w.heap.size w W) => law_awake hTab W (hH.below h (Nat.le_refl _)))
 have SD := Lib.hid (fun n w => mk_Seed n w)
 have NW := Lib.hid (fun w => mk_New hl w)
 obtain ⟨H1, hG1, hl1, hr1⟩ := lit_row (L := lieB) (Grows.refl hH) (((RowC.one (L := lieB) (H := H) ⟨PA, pc, rfl, hp⟩).app (RowC.one (L := lieB) (H := H) ⟨QA, qc, rfl, hq⟩)).app (RowC.one (L := lieB) (H := H) ⟨BA, bc, rfl, hb⟩) : RowC lieB H [.slice PA p.length pc, .slice QA q.length qc, .slice BA b.length bc] [p, q, b]) 24 (by simp)
 replace hr1 : IsRow lieB H1 (some ⟨w.heap.size, 0, none⟩) 3 [p, q, b] := hr1
 obtain ⟨np, hnp⟩ : ∃ np, p.length = np := ⟨_, rfl⟩
 obtain ⟨nq, hnq⟩ : ∃ nq, q.length = nq := ⟨_, rfl⟩
 obtain ⟨nb, hnb⟩ : ∃ nb, b.length = nb := ⟨_, rfl⟩
 have HNP := Lib.hid (And.intro hnp (And.intro hnq hnb))
 have hG1' : Grows w H (w.alloc (.cells #[.slice PA np pc, .slice QA nq qc, .slice BA nb bc] 24)) H1 := by rw [← hnp, ← hnq, ← hnb]; exact hG1
 have AL := Lib.hid (mk2_All (n := 3) _ hG1'.holds rfl hr1)
 have HG1 := Lib.hid hG1'
 rw [hnp, hnq, hnb]
 clear hTab hl hp hq hb hH hG1 hl1 hr1 hnp hnq hnb hG1'
 go_enter Tryd.func5, Tryd.ntmps5
 go_wp2_with fail
 refine AL.out.mono ?_
 rintro e w2 ⟨⟨t1, rfl⟩, hw2⟩
 have hb1 : Below w.heap.size w w2 := by rw [hw2]; exact HG1.out.below
 clear AL HG1 hw2
 cases t1 with
 | false =>
   go_wp2_with fail
   refine (AW.out _ hb1).mono ?_
   rintro e w2 ⟨rfl, hb2⟩
   go_wp2_with fail
   go_ret
   exact ⟨rfl, hb1.trans (hb2.mono hb1.size)⟩
 | true =>
 have hG1 := Grows.of_below HH.out hb1
 go_wp2_with fail
 refine (NW.out _).mono ?_
 rintro e w3 ⟨rfl, hdk, hb3⟩
 have hG3 := hG1.below_ hb3
 have hDI : DeckIn w3 w2.heap.size H := ⟨hdk, hG3.holds, HH.out.none_of_ge hb1.size⟩
 have NX := Lib.hid (deck_Next w3 hDI 99 (by omega) (by omega))
 have hgw := Lib.hid hb1.size
 have hgl3 := Lib.hid hdk.lt
 clear NW hdk hb3 hDI hG1 hb1
 go_wp2_with fail
 refine NX.out.mono ?_
 rintro e w4 ⟨r, rfl, hr, hd4⟩
 clear NX hr
 go_wp2_with fail
 refine (SD.out _ _).mono ?_
 rintro e w5 ⟨SA, sc, sl, rfl, hsl, hf5⟩
 obtain ⟨H5, hG5', hsb, hjunk⟩ := Fresh.snapB hd4.holds hf5
 clear hjunk
 have hd5 := hd4.grown hG5'
 have HSL := Lib.hid hsl
 have BY := Lib.hid (mk_BytesOwn w5 hd5.deck 40 (by omega) (by omega))
 have hgl5 := Lib.hid (Nat.lt_of_lt_of_le hgl3.out hd5.size)
 clear SD hd4 hG5' hf5 hsl
 go_wp2_with fail
 refine BY.out.mono ?_
 rintro e w6 ⟨YA, yc, yn, yv, rfl, hyn, hyl, hO6, hon6, hd6⟩
 have HYL := Lib.hid (And.intro hyn hyl)
 have hO6a := hO6.alloc (.cells #[.int .u8 1] 5)
 have hd6a := hd6.alloc (.cells #[.int .u8 1] 5)
 clear BY hyn hyl hO6 hd6
 go_wp2_with (at_builtin; refine stop_in ?_)
 unfold Stopped
 refine wpList_app_bytes rfl (.tmp 45) (.tmp 46) rfl w5.heap.size (.slice YA yn yc) yv rfl hO6a _ 1 _ [1] rfl rfl (Src.new _ _ _ _ rfl _ rfl) (by have := HYL.out; simp only [List.length_singleton]; omega) hd6a.size fun v' w7 hO7 hg7 hat7 => ?_
 have hd7 := hd6a.grownRow hon6 (fun q hq => (hO6a.lt q hq).1) hgl5.out hg7
 obtain ⟨VA, vc, rfl, hjunk⟩ := hO7.form
 clear hjunk
 obtain ⟨cq, hcq⟩ : ∃ cq, yv ++ [1] = cq := ⟨_, rfl⟩
 have HCL : Hid (1 ≤ cq.length ∧ cq.length ≤ 41) := by have := HYL.out; rw [Hid, ← hcq, List.length_append, List.length_singleton]; omega
 rw [hcq] at hO7 ⊢
 have hn7 := own_hid3 hd6a.holds hon6 hat7
 obtain ⟨H7, hl7, hh7, hf7, hz7, hcb⟩ := hO7.snap hd7.holds (fun q hq => hn7 q (own_of hq))
 have hG5 := hG3.trans_but hd5.grows hgw.out
 have hG7 := (hG3.trans_but (hd5.grows.trans hd7.grows) hgw.out).snap hl7 hh7 hf7 (fun q hq => Nat.le_trans hG5.below.size (hO7.lt q (own_of hq)).1)
 have hsb7 := hsb.mono hl7
 have R : Hid (encSecond sl cq = .ok (strB (sl ++ cq))) := by rw [Hid, encSecond, if_neg (by have := HSL.out; have := HCL.out; omega)]
 obtain ⟨ncq, hncq⟩ : ∃ ncq, cq.length = ncq := ⟨_, rfl⟩
 have HNC := Lib.hid hncq
 have R1 := Lib.hid (ref_EncodeSecond (n := 32) (m := ncq) w7 hG7.holds HSL.out.symm HNC.out.symm hsb7 hcb)
 rw [R.out] at R1
 rw [hncq]
 clear hd5 hd6a hO6a hon6 hg7 hat7 hd7 hO7 hn7 hl7 hh7 hf7 hz7 hG5 hG3 hcq hncq hsb
 go_wp2_with fail
 refine R1.out.mono ?_
 intro e w8 hs
 unfold BytesOut at hs
 obtain ⟨v, rfl, hf8⟩ := hs
 obtain ⟨GA, gc, rfl, hjunk⟩ := hf8.own.form
 clear hjunk
 obtain ⟨H8, hG8', hgb, hjunk⟩ := Fresh.snapB hG7.holds hf8
 clear hjunk
 have hG8 := hG7.trans hG8'
 have hsb8 := hsb7.mono hG8'.le
 have hcb8 := hcb.mono hG8'.le
 have HGL := Lib.hid (encSecond_le R.out)
 obtain ⟨good, hgood⟩ : ∃ good, strB (sl ++ cq) = good := ⟨_, rfl⟩
 rw [hgood] at hgb HGL R ⊢
 have SP := Lib.hid (mk_Spoilt w8 hG8.holds rfl hgb (by have := HGL.out; omega) at_ by_)
 clear R1 hf8 hG8' hG7 hsb7 hcb hgood
 go_wp2_with fail
 refine SP.out.mono ?_
 rintro e w9 ⟨XA, xc, sp, rfl, H9, hG9', hxb⟩
 have hG9 := hG8.trans hG9'
 have hgb9 := hgb.mono hG9'.le
 have hbb9 := HB.out.mono hG9.le
 obtain ⟨Ha, hGa, hla, hra⟩ := lit_row (L := lieB) hG9 (((RowC.one (L := lieB) (H := H9) ⟨BA, bc, rfl, hbb9⟩).app (RowC.one (L := lieB) (H := H9) ⟨GA, gc, rfl, hgb9⟩)).app (RowC.one (L := lieB) (H := H9) ⟨XA, xc, rfl, hxb⟩) : RowC lieB H9 [.slice BA b.length bc, .slice GA good.length gc, .slice XA sp.length xc] [b, good, sp]) 24 (by simp)
 have HSC := Lib.hid (And.intro ((hsb8.mono hG9'.le).mono hla) (And.intro ((hcb8.mono hG9'.le).mono hla) (hgb9.mono hla)))
 obtain ⟨ng, hng⟩ : ∃ ng, good.length = ng := ⟨_, rfl⟩
 obtain ⟨ns, hns⟩ : ∃ ns, sp.length = ns := ⟨_, rfl⟩
 have HNG := Lib.hid hng
 obtain ⟨ls, hls⟩ : ∃ ls, [b, good, sp] = ls := ⟨_, rfl⟩
 have HLS : Hid (ls.length = 3) := by rw [Hid, ← hls]; rfl
 replace hra : IsRow lieB Ha (some ⟨w9.heap.size, 0, none⟩) 3 [b, good, sp] := hra
 rw [hls] at hra
 have hGa' : Grows w H (w9.alloc (.cells #[.slice BA nb bc, .slice GA ng gc, .slice XA ns xc] 24)) Ha := by rw [← HNP.out.2.2, ← hng, ← hns]; exact hGa
 have hrah := Lib.hid hra
 rw [hng, hns]
 clear SP hG8 hG9' hxb hG9 hsb8 hcb8 hgb hgb9 hbb9 hGa hla hra hng hns hls
 go_wp2_with fail
 go_loopw [62] (fun v62 wr => ∃ (i : Nat) (Hr : Snap), i ≤ 3 ∧ v62 = .int .i64 (i : Int) ∧ Grows w H wr Hr ∧ Ha.le Hr) (fun v62 _ => 3 - (intOf v62).toNat)
 case atStart => exact ⟨0, Ha, by omega, rfl, hGa', Snap.le.refl _⟩
 case round =>
   clear hGa'
   obtain ⟨i, Hr, hi, rfl, hGr, hlr⟩ := hrel
   have HI := Lib.hid hi
   have HLR := Lib.hid hlr
   clear hi hlr
   by_cases hi3 : i < 3
   · have hii : (i : Int) < 3 := by omega
     obtain ⟨rb, ro, hrb0, hat⟩ := hrah.out.at_ (by rw [HLS.out]; omega)
     obtain ⟨d, hd, hc⟩ := hat i (by rw [HLS.out]; exact hi3)
     obtain ⟨CA, cc, hd', hcb⟩ := hd
     subst hd'
     injection hrb0 with hrb0
     injection hrb0 with hrb hro
     subst hrb
     subst hro
     have q0 : wr.cell? ⟨w9.heap.size, i, none⟩ = some (.slice CA (ls[i]'(by rw [HLS.out]; exact hi3)).length cc) := by
       have h := hGr.holds.cell (HLR.out.cell (hc 0 _ rfl))
       rw [show 0 + (i * lieB.k + 0) = i from by show 0 + (i * 1 + 0) = i; omega] at h
       exact h
     obtain ⟨cl, hcl⟩ : ∃ cl, ls[i]'(by rw [HLS.out]; exact hi3) = cl := ⟨_, rfl⟩
     rw [hcl] at q0 hcb
     have hcb' := hcb.mono HLR.out
     have D1 := Lib.hid (e_DecodeSecond (HT.out.mono hGr.le) wr hGr.holds rfl hcb')
     have HI3 := Lib.hid hi3
     have hGrh := Lib.hid hGr
     have HCB := Lib.hid hcb'
     clear hat hc hcl hcb hi3 hGr hcb'
     go_wp2_with fail
     refine D1.out.mono ?_
     intro e w10 hs
     unfold SecondOut at hs
     clear D1 q0
     cases hde : decSecond cl with
     | error q =>
       rw [hde] at hs
       obtain ⟨rfl, hb10⟩ := hs
       have hG10 := hGrh.out.below_ hb10
       have D2 := Lib.hid (ref_DecodeSecond (HT.out.mono hG10.le) w10 hG10.holds rfl HCB.out)
       rw [hde] at D2
       clear hde hb10
       go_wp2_with fail
       refine D2.out.mono ?_
       intro e w11 hs
       unfold SecondOut at hs
       obtain ⟨rfl, hb11⟩ := hs
       have hG11 := hG10.below_ hb11
       have SA_ := Lib.hid (law_same (A := none) (B := none) (n := 0) (m := 0) (c := 0) (d := 0) (l := []) q rfl rfl (by simp) w11 (Src.nil _ _) (Src.nil _ _))
       clear D2 hG10 hb11
       go_wp2_with fail
       refine SA_.out.mono ?_
       rintro e w12 ⟨rfl, hb12⟩
       have hG12 := hG11.below_ hb12
       have EQ := ref_Equal w12 none none [] [] 0 0 0 0 rfl rfl (by omega) (by omega) (Src.nil _ _) (Src.nil _ _)
       rw [decide_eq_true (rfl : ([] : List UInt8) = [])] at EQ
       have EQ := Lib.hid EQ
       clear SA_ hG11 hb12
       go_wp2_with fail
       refine EQ.out.mono ?_
       rintro e w13 ⟨rfl, hb13⟩
       have hG13 := hG12.below_ hb13
       clear EQ hG12 hb13
       go_wp2_with fail
       go_roundw
       case rel => exact ⟨i + 1, Hr, by have := HI3.out; omega, by go_num, hG13, HLR.out⟩
       case measure => have := HI3.out; simp [intOf]; omega
     | ok ab =>
       obtain ⟨xa, xb⟩ := ab
       rw [hde] at hs
       obtain ⟨VA, vc, VB, vd, H10, rfl, hG10', hxa, hxb⟩ := hs
       have hG10 := hGrh.out.trans hG10'
       have HSH := Lib.hid (decSecond_short hde)
       have D2 := Lib.hid (ref_DecodeSecond (HT.out.mono hG10.le) w10 hG10.holds rfl (HCB.out.mono hG10'.le))
       rw [hde] at D2
       have HL10 := Lib.hid (HLR.out.trans hG10'.le)
       clear hde hG10'
       go_wp2_with fail
       refine D2.out.mono ?_
       intro e w11 hs
       unfold SecondOut at hs
       obtain ⟨WA, wc, WB, wd, H11, rfl, hG11', hya, hyb⟩ := hs
       have hG11 := hG10.trans hG11'
       have hxa1 := hxa.mono hG11'.le
       have hxb1 := Lib.hid (hxb.mono hG11'.le)
       have HYB := Lib.hid hyb
       have HL11 := Lib.hid (HL10.out.trans hG11'.le)
       have SA_ := law_same (A := VA) (B := WA) (n := xa.length) (m := xa.length) (c := vc) (d := wc) (l := xa) 0 rfl rfl (by have := HSH.out.1; omega) w11 (Src.of_row hxa1.row hG11.holds) (Src.of_row hya.row hG11.holds)
       have SAH := Lib.hid (show Calls Tryd.prog 18 #[.slice VA xa.length vc, .int .i64 0, .slice WA xa.length wc, .int .i64 0] w11 _ from SA_)
       clear D2 hG10 hG11' hxa hxb hya hyb hxa1 SA_
       go_wp2_with fail
       refine SAH.out.mono ?_
       rintro e w12 ⟨rfl, hb12⟩
       have hG12 := hG11.below_ hb12
       have EQ := ref_Equal w12 VB WB xb xb xb.length xb.length vd wd rfl rfl (by have := HSH.out.2; omega) (by have := HSH.out.2; omega) (Src.of_row hxb1.out.row hG12.holds) (Src.of_row HYB.out.row hG12.holds)
       rw [decide_eq_true (rfl : xb = xb)] at EQ
       have EQ := Lib.hid EQ
       clear SAH hG11 hb12
       go_wp2_with fail
       refine EQ.out.mono ?_
       rintro e w13 ⟨rfl, hb13⟩
       have hG13 := hG12.below_ hb13
       clear EQ hG12 hb13
       go_wp2_with fail
       go_roundw
       case rel => exact ⟨i + 1, H11, by have := HI3.out; omega, by go_num, hG13, HL11.out⟩
       case measure => have := HI3.out; simp [intOf]; omega
   · have hii : ¬ ((i : Int) < 3) := by omega
     have hid : decide ((i : Int) < 3) = false := decide_eq_false hii
     have hsbr := Lib.hid (HSC.out.1.mono HLR.out)
     have hcbr := Lib.hid (HSC.out.2.1.mono HLR.out)
     have hgbr := Lib.hid (HSC.out.2.2.mono HLR.out)
     have E1 := Lib.hid (e_EncodeSecond (n := np) (m := nq) wr hGr.holds HNP.out.1.symm HNP.out.2.1.symm (HP.out.mono hGr.le) (HQ.out.mono hGr.le))
     have hGrh := Lib.hid hGr
     clear hi3 hGr
     go_wp2_with fail
     refine E1.out.mono ?_
     intro e w10 hs
     unfold BytesOut at hs
     clear E1
     cases hde : encSecond p q with
     | error k =>
       rw [hde] at hs
       obtain ⟨rfl, hb10⟩ := hs
       have hG10 := hGrh.out.below_ hb10
       have E2 := Lib.hid (ref_EncodeSecond (n := np) (m := nq) w10 hG10.holds HNP.out.1.symm HNP.out.2.1.symm (HP.out.mono hG10.le) (HQ.out.mono hG10.le))
       rw [hde] at E2
       clear hde hb10
       go_wp2_with fail
       refine E2.out.mono ?_
       intro e w11 hs
       unfold BytesOut at hs
       obtain ⟨rfl, hb11⟩ := hs
       have hG11 := hG10.below_ hb11
       have hsx := hsbr
       have hcx := hcbr
       have hgx := hgbr
       clear E2 hG10 hb11
       have E3 := Lib.hid (e_EncodeSecond (n := 32) (m := ncq) w11 hG11.holds HSL.out.symm HNC.out.symm hsx.out hcx.out)
       rw [R.out] at E3
       go_wp2_with fail
       refine E3.out.mono ?_
       intro e w12 hs
       unfold BytesOut at hs
       obtain ⟨v, rfl, hf12⟩ := hs
       obtain ⟨ZA, zc, rfl, hz1, hz2, hzs⟩ := hf12.own.form
       have hG12 := hG11.below_ hf12.2
       have S1 := Lib.hid (law_same (A := none) (B := none) (n := 0) (m := 0) (c := 0) (d := 0) (l := []) k rfl rfl (by simp) w12 (Src.nil _ _) (Src.nil _ _))
       rw [HNG.out]
       clear E3 hG11 hf12 hz1 hz2
       go_wp2_with fail
       refine S1.out.mono ?_
       rintro e w13 ⟨rfl, hb13⟩
       have hG13 := hG12.below_ hb13
       have S2_ := law_same (A := ZA) (B := GA) (n := ng) (m := ng) (c := zc) (d := gc) (l := good) 0 HNG.out.symm HNG.out.symm (by have := HGL.out; omega) w13 (hzs.below hb13) (Src.of_row hgx.out.row hG13.holds)
       have S2 := Lib.hid (show Calls Tryd.prog 18 #[.slice ZA ng zc, .int .i64 0, .slice GA ng gc, .int .i64 0] w13 _ from S2_)
       clear S1 S2_ hG12 hb13 hzs
       go_wp2_with fail
       refine S2.out.mono ?_
       rintro e w14 ⟨rfl, hb14⟩
       have hG14 := hG13.below_ hb14
       clear S2 hG13 hb14
       go_wp2_with fail
       refine (AW.out _ hG14.below).mono ?_
       rintro e w15 ⟨rfl, hb15⟩
       go_wp2_with fail
       go_ret
       exact ⟨rfl, hG14.below.trans (hb15.mono hG14.below.size)⟩
     | ok bs =>
       rw [hde] at hs
       obtain ⟨v, rfl, hf10⟩ := hs
       obtain ⟨MA, mc, rfl, hjunk⟩ := hf10.own.form
       clear hjunk
       obtain ⟨H10, hG10', hmb, hjunk⟩ := Fresh.snapB hGrh.out.holds hf10
       clear hjunk
       have hG10 := hGrh.out.trans hG10'
       have HBL := Lib.hid (encSecond_le hde)
       have E2 := Lib.hid (ref_EncodeSecond (n := np) (m := nq) w10 hG10.holds HNP.out.1.symm HNP.out.2.1.symm (HP.out.mono hG10.le) (HQ.out.mono hG10.le))
       rw [hde] at E2
       obtain ⟨bl, hbl⟩ : ∃ bl, bs.length = bl := ⟨_, rfl⟩
       have HBS := Lib.hid hbl
       rw [hbl]
       clear hde hf10 hbl
       go_wp2_with fail
       refine E2.out.mono ?_
       intro e w11 hs
       unfold BytesOut at hs
       obtain ⟨v, rfl, hf11⟩ := hs
       obtain ⟨NA, nc, rfl, hjunk⟩ := hf11.own.form
       clear hjunk
       rw [HBS.out] at hf11 ⊢
       obtain ⟨H11, hG11', hnb, hjunk⟩ := Fresh.snapB hG10.holds hf11
       clear hjunk
       have hG11 := hG10.trans hG11'
       have HMB := Lib.hid (hmb.mono hG11'.le)
       have HNB := Lib.hid hnb
       have hsx := Lib.hid ((hsbr.out.mono hG10'.le).mono hG11'.le)
       have hcx := Lib.hid ((hcbr.out.mono hG10'.le).mono hG11'.le)
       have hgx := Lib.hid ((hgbr.out.mono hG10'.le).mono hG11'.le)
       clear E2 hG10 hG10' hG11' hf11 hmb hnb
       have E3 := Lib.hid (e_EncodeSecond (n := 32) (m := ncq) w11 hG11.holds HSL.out.symm HNC.out.symm hsx.out hcx.out)
       rw [R.out] at E3
       go_wp2_with fail
       refine E3.out.mono ?_
       intro e w12 hs
       unfold BytesOut at hs
       obtain ⟨v, rfl, hf12⟩ := hs
       obtain ⟨ZA, zc, rfl, hz1, hz2, hzs⟩ := hf12.own.form
       have hG12 := hG11.below_ hf12.2
       have S1_ := law_same (A := MA) (B := NA) (n := bl) (m := bl) (c := mc) (d := nc) (l := bs) 0 HBS.out.symm HBS.out.symm (by have := HBL.out; omega) w12 (Src.of_row HMB.out.row hG12.holds) (Src.of_row HNB.out.row hG12.holds)
       have S1 := Lib.hid (show Calls Tryd.prog 18 #[.slice MA bl mc, .int .i64 0, .slice NA bl nc, .int .i64 0] w12 _ from S1_)
       clear S1_
       rw [HNG.out]
       clear E3 hG11 hf12 hz1 hz2
       go_wp2_with fail
       refine S1.out.mono ?_
       rintro e w13 ⟨rfl, hb13⟩
       have hG13 := hG12.below_ hb13
       have S2_ := law_same (A := ZA) (B := GA) (n := ng) (m := ng) (c := zc) (d := gc) (l := good) 0 HNG.out.symm HNG.out.symm (by have := HGL.out; omega) w13 (hzs.below hb13) (Src.of_row hgx.out.row hG13.holds)
       have S2 := Lib.hid (show Calls Tryd.prog 18 #[.slice ZA ng zc, .int .i64 0, .slice GA ng gc, .int .i64 0] w13 _ from S2_)
       clear S1 S2_ hG12 hb13 hzs
       go_wp2_with fail
       refine S2.out.mono ?_
       rintro e w14 ⟨rfl, hb14⟩
       have hG14 := hG13.below_ hb14
       clear S2 hG13 hb14
       go_wp2_with fail
       refine (AW.out _ hG14.below).mono ?_
       rintro e w15 ⟨rfl, hb15⟩
       go_wp2_with fail
       go_ret
       exact ⟨rfl, hG14.below.trans (hb15.mono hG14.below.size)⟩
end Go.Proofs.YtlebpackbfcfeaaDoor
