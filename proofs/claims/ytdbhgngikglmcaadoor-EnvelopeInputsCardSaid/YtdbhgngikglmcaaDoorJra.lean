/- Walks: the references' float. Walks: the references' Raw. Walks: the references' Raw, joined. Walks: the references' left. -/
import Derived.Test.YtdbhgngikglmcaaDoorJlow
import Derived.Test.YtdbhgngikglmcaaDoorJpure
import Derived.Test.YtdbhgngikglmcaaDoorWcbor4
set_option linter.unusedVariables false
set_option linter.unusedSimpArgs false
namespace Go.Proofs.YtdbhgngikglmcaaDoor
open Go.RowKit

set_option maxRecDepth 100000 in
set_option maxHeartbeats 3200000 in
theorem ref_float (n : Nat) (hn : n < 18446744073709551616) (w : World) :
    Calls Tryd.prog 66 #[.int .u64 (n : Int)] w fun e w' => ∃ r, e = .returned r ∧ Fresh w (floatB n) r w' := by
  have I := Lib.hid (ref_IsNaN n hn w)
  have N1 := Lib.hid (ref_Narrow16 n hn w)
  have N2 := Lib.hid (ref_Narrow32 n hn w)
  have HN := Lib.hid hn
  clear hn
  cases hN : isNaN n with
  | true =>
    rw [hN] at I
    have E : Hid (floatB n = [u8 249, u8 126, u8 0]) := by rw [Hid, floatB, if_pos hN]
    clear hN
    go_enter Tryd.func66, Tryd.ntmps66
    go_wp2_with fail
    refine I.out.mono ?_
    rintro e w' ⟨rfl, rfl⟩
    go_wp2_with fail
    go_ret
    refine ⟨_, rfl, ?_⟩
    rw [E.out]
    exact Fresh.lit w _ _ 3 rfl (by simp) rfl
  | false =>
    rw [hN] at I
    cases h1 : narrow n 5 10 with
    | some v =>
      have E : Hid (floatB n = [u8 249, u8 (v / 256), u8 v]) := by rw [Hid, floatB, if_neg (by simp [hN]), h1]
      rw [h1] at N1
      clear hN h1
      go_enter Tryd.func66, Tryd.ntmps66
      go_wp2_with fail
      refine I.out.mono ?_
      rintro e w' ⟨rfl, rfl⟩
      go_wp2_with fail
      refine N1.out.mono ?_
      rintro e w' ⟨⟨v', rfl, hv⟩, rfl⟩
      obtain rfl := hv v rfl
      clear hv
      go_wp2_with fail
      go_ret
      refine ⟨_, rfl, ?_⟩
      rw [E.out]
      refine Fresh.lit w _ _ 3 rfl (by simp) ?_
      simp only [List.map_cons, List.map_nil, byteV_u8]
      simp
    | none =>
      rw [h1] at N1
      cases h2 : narrow n 8 23 with
      | some v =>
        have E : Hid (floatB n = [u8 250, u8 (v / 16777216), u8 (v / 65536), u8 (v / 256), u8 v]) := by rw [Hid, floatB, if_neg (by simp [hN]), h1, h2]
        rw [h2] at N2
        clear hN h1 h2
        go_enter Tryd.func66, Tryd.ntmps66
        go_wp2_with fail
        refine I.out.mono ?_
        rintro e w' ⟨rfl, rfl⟩
        go_wp2_with fail
        refine N1.out.mono ?_
        rintro e w' ⟨⟨v', rfl, _⟩, rfl⟩
        go_wp2_with fail
        refine N2.out.mono ?_
        rintro e w' ⟨⟨v'', rfl, hv⟩, rfl⟩
        obtain rfl := hv v rfl
        clear hv
        go_wp2_with fail
        go_ret
        refine ⟨_, rfl, ?_⟩
        rw [E.out]
        refine Fresh.lit w _ _ 5 rfl (by simp) ?_
        simp only [List.map_cons, List.map_nil, byteV_u8]
        simp
      | none =>
        have E : Hid (floatB n = u8 251 :: tailB n 8 8) := by
          rw [Hid, floatB, if_neg (by simp [hN]), h1, h2]
          simp [tailB, be8, List.range_succ]
        rw [h2] at N2
        clear hN h1 h2
        have hO : OwnB (w.alloc (.cells #[.int .u8 251] 5)) w.heap.size (.slice (some ⟨w.heap.size, 0, none⟩) 1 1) [u8 251] := OwnB.lit w _ _ _ 1 rfl rfl (Nat.le_refl _) (by simp)
        have hb2 := below_box w (.cells #[.int .u8 251] 5)
        go_enter Tryd.func66, Tryd.ntmps66
        go_wp2_with fail
        refine I.out.mono ?_
        rintro e w' ⟨rfl, rfl⟩
        go_wp2_with fail
        refine N1.out.mono ?_
        rintro e w' ⟨⟨v', rfl, _⟩, rfl⟩
        go_wp2_with fail
        refine N2.out.mono ?_
        rintro e w' ⟨⟨v'', rfl, _⟩, rfl⟩
        go_wp2_with fail
        go_loopw [7, 8] (fun v7 v8 wr => ∃ (j : Nat) (VA : Option Addr) (vc : Nat), j ≤ 8 ∧ v8 = .int .i64 (7 - (j : Int)) ∧ v7 = .slice VA (1 + j) vc ∧ OwnB wr w.heap.size (.slice VA (1 + j) vc) (u8 251 :: tailB n 8 j) ∧ Below w.heap.size w wr) (fun _ v8 _ => (intOf v8 + 1).toNat)
        case atStart => exact ⟨0, _, _, by omega, by go_num, rfl, hO, hb2⟩
        case round =>
          obtain ⟨j, VA, vc, hj, rfl, rfl, hOr, hbr⟩ := hrel
          by_cases hlt : j < 8
          · have hge : (0 : Int) ≤ 7 - (j : Int) := by omega
            have hcell : (#[.int .u8 ((n : Int) / 2 ^ (8 * (7 - j)) % 256)] : Array Value).toList = [tailF n 8 j].map byteV := by
              simp only [List.map_cons, List.map_nil, tailF, byteV_u8]
              rw [show 8 - 1 - j = 7 - j by omega]
              simp
            have hb3 := hbr.alloc hbr.size (.cells #[.int .u8 ((n : Int) / 2 ^ (8 * (7 - j)) % 256)] 5)
            have hO3 := hOr.alloc (.cells #[.int .u8 ((n : Int) / 2 ^ (8 * (7 - j)) % 256)] 5)
            have HC := Lib.hid hcell
            clear hcell
            go_wp2_with (at_builtin; refine stop_in ?_)
            unfold Stopped
            refine wpList_app_bytes rfl (.tmp 47) (.tmp 54) rfl w.heap.size _ _ rfl hO3 _ 1 _ [tailF n 8 j] rfl rfl (Src.new _ _ _ _ rfl _ HC.out) (by simp [tailB_len]; omega) hb3.size fun v' w7 hO7 hg7 hat7 => ?_
            have hl7 : (u8 251 :: tailB n 8 j) ++ [tailF n 8 j] = u8 251 :: tailB n 8 (j + 1) := by rw [tailB_succ]; rfl
            obtain ⟨VA', vc', rfl, _⟩ := hO7.form
            have hll : ((u8 251 :: tailB n 8 j) ++ [tailF n 8 j]).length = 1 + (j + 1) := by simp [tailB_len]; omega
            rw [hll] at hO7
            rw [hll]
            rw [hl7] at hO7
            have hb7 := hb3.grown hg7 hb3.size (fun q hq => (hO3.lt q hq).1)
            clear hl7 hll hg7 hat7 hO3 hOr hb3 hbr
            go_wp2_with fail
            go_roundw
            case rel => exact ⟨j + 1, VA', vc', by omega, by rw [show ((j + 1 : Nat) : Int) = (j : Int) + 1 by omega, show (7 : Int) - ((j : Int) + 1) = 7 - j - 1 by omega], rfl, hO7, hb7⟩
            case measure => simp [intOf]; omega
          · have hjs : j = 8 := by omega
            subst hjs
            go_wp2_with fail
            go_ret
            rw [E.out]
            exact ⟨_, rfl, hOr, hbr⟩
end Go.Proofs.YtdbhgngikglmcaaDoor
namespace Go.Proofs.YtdbhgngikglmcaaDoor
open Go.RowKit

theorem ItemA.eqs_ {H : Snap} {k n : Int} {ba : Option Addr} {bl bc : Nat} {ia : Option Addr} {il ic : Nat} {x : Itm} (h : ItemA H k n ba bl bc ia il ic x) : k = x.kind ∧ n = (x.n : Int) ∧ bl = x.bytes.length ∧ il = x.items.length ∧ IsItem H ba bc ia ic x := ⟨h.1, h.2, h.3, h.4, h.5⟩
theorem Fresh.step {w w1 w2 : World} {l : List UInt8} {r : Value} (hb : Below w.heap.size w w1) (h : Fresh w1 l r w2) : Fresh w l r w2 := ⟨h.own.more hb.size, hb.trans (h.2.mono hb.size)⟩
theorem Fresh.litAt (w : World) (l : List UInt8) (cs : Array Value) (k b : Nat) (hb : b = w.heap.size) (hk : k = l.length) (hm : l.length ≤ 4096) (hc : cs.toList = l.map byteV) :
    Fresh w l (.slice (some ⟨b, 0, none⟩) k k) (w.alloc (.cells cs 5)) := by
  subst hb
  exact Fresh.lit w l cs k hk hm hc
def RawSaid (x : Itm) : Prop := ∀ (H : Snap) (k n : Int) (ba : Option Addr) (bl bc : Nat) (ia : Option Addr) (il ic : Nat) (w : World) (lv : Nat),
  Good x lv → (encB x).length ≤ 1099511627776 → ItemA H k n ba bl bc ia il ic x → Holds w H →
  Calls Tryd.prog 42 #[.agg #[.int .i64 k, .int .u64 n, .slice ba bl bc, .slice ia il ic]] w fun e w' => ∃ r, e = .returned r ∧ Fresh w (encB x) r w'

theorem enc_num {x : Itm} {lv : Nat} (h : Good x lv) (hk : x.kind = 0 ∨ x.kind = 1) : encB x = headB x.kind.toNat x.n := by
  have ho := h.node
  rcases nodeOk_cases ho with ⟨h1, h2⟩ | ⟨h1, _⟩
  · have hi := (okPlain_items h1 h2).1
    have hb : x.bytes = [] := by simp [okPlain, hk] at h2; exact h2.1
    have hn : numP x = x.n := by unfold numP; rcases hk with h | h <;> simp [h]
    rw [encB_eq, if_neg (by omega), if_neg (by omega), hi, hb, encL, hn]
    simp
  · rw [(isPlain_iff x).2 (by omega)] at h1; cases h1
theorem enc_str {x : Itm} {lv : Nat} (h : Good x lv) (hk : x.kind = 2 ∨ x.kind = 3) : encB x = headB x.kind.toNat x.bytes.length ++ x.bytes := by
  have ho := h.node
  rcases nodeOk_cases ho with ⟨h1, h2⟩ | ⟨h1, _⟩
  · have hi := (okPlain_items h1 h2).1
    have hn : numP x = x.bytes.length := by unfold numP; rw [if_pos hk]
    rw [encB_eq, if_neg (by omega), if_neg (by omega), hi, encL, hn]
    simp
  · rw [(isPlain_iff x).2 (by omega)] at h1; cases h1
theorem enc_more {x : Itm} {lv : Nat} (h : Good x lv) (hk : 4 ≤ x.kind ∧ x.kind ≤ 6) : encB x = headB x.kind.toNat (numP x) ++ encL x.items := by
  have ho := h.node
  rcases nodeOk_cases ho with ⟨h1, _⟩ | ⟨_, h1⟩
  · rw [isPlain_iff] at h1; omega
  · have hb := (frameOk_spec h1).2.2.2.1
    rw [List.length_eq_zero_iff] at hb
    rw [encB_eq, if_neg (by omega), if_neg (by omega), hb]
    simp
theorem enc_simple {x : Itm} {lv : Nat} (h : Good x lv) (hk : x.kind = 7) : encB x = if x.n < 24 then [u8 (224 + x.n)] else [u8 248, u8 x.n] := by
  have ho := h.node
  rcases nodeOk_cases ho with ⟨h1, h2⟩ | ⟨h1, _⟩
  · have hi := okPlain_items h1 h2
    have hn : numP x = x.n := by unfold numP; simp [hk]
    by_cases h24 : x.n < 24
    · rw [if_pos h24, encB_eq, if_neg (by omega), if_neg (by omega), hi.1, hi.2 (by omega), encL, hn, headB, if_pos h24, hk]
      rfl
    · rw [if_neg h24, encB_eq, if_neg (by omega), if_pos ⟨hk, by omega⟩]
  · rw [(isPlain_iff x).2 (by omega)] at h1; cases h1
/- What the tests on a kind say. -/
theorem kinds0 {k : Int} (h : k = 0) : (k == 0) = true ∧ (k == 1) = false ∧ (k == 2) = false ∧ (k == 3) = false ∧ (k == 4) = false ∧ (k == 5) = false ∧ (k == 6) = false ∧ (k == 7) = false ∧ (k == 8) = false := by
  subst h
  decide
theorem kinds1 {k : Int} (h : k = 1) : (k == 0) = false ∧ (k == 1) = true ∧ (k == 2) = false ∧ (k == 3) = false ∧ (k == 4) = false ∧ (k == 5) = false ∧ (k == 6) = false ∧ (k == 7) = false ∧ (k == 8) = false := by
  subst h
  decide
theorem kinds2 {k : Int} (h : k = 2) : (k == 0) = false ∧ (k == 1) = false ∧ (k == 2) = true ∧ (k == 3) = false ∧ (k == 4) = false ∧ (k == 5) = false ∧ (k == 6) = false ∧ (k == 7) = false ∧ (k == 8) = false := by
  subst h
  decide
theorem kinds3 {k : Int} (h : k = 3) : (k == 0) = false ∧ (k == 1) = false ∧ (k == 2) = false ∧ (k == 3) = true ∧ (k == 4) = false ∧ (k == 5) = false ∧ (k == 6) = false ∧ (k == 7) = false ∧ (k == 8) = false := by
  subst h
  decide
theorem kinds4 {k : Int} (h : k = 4) : (k == 0) = false ∧ (k == 1) = false ∧ (k == 2) = false ∧ (k == 3) = false ∧ (k == 4) = true ∧ (k == 5) = false ∧ (k == 6) = false ∧ (k == 7) = false ∧ (k == 8) = false := by
  subst h
  decide
theorem kinds5 {k : Int} (h : k = 5) : (k == 0) = false ∧ (k == 1) = false ∧ (k == 2) = false ∧ (k == 3) = false ∧ (k == 4) = false ∧ (k == 5) = true ∧ (k == 6) = false ∧ (k == 7) = false ∧ (k == 8) = false := by
  subst h
  decide
theorem kinds6 {k : Int} (h : k = 6) : (k == 0) = false ∧ (k == 1) = false ∧ (k == 2) = false ∧ (k == 3) = false ∧ (k == 4) = false ∧ (k == 5) = false ∧ (k == 6) = true ∧ (k == 7) = false ∧ (k == 8) = false := by
  subst h
  decide
theorem kinds7 {k : Int} (h : k = 7) : (k == 0) = false ∧ (k == 1) = false ∧ (k == 2) = false ∧ (k == 3) = false ∧ (k == 4) = false ∧ (k == 5) = false ∧ (k == 6) = false ∧ (k == 7) = true ∧ (k == 8) = false := by
  subst h
  decide
theorem kinds8 {k : Int} (h : k = 8) : (k == 0) = false ∧ (k == 1) = false ∧ (k == 2) = false ∧ (k == 3) = false ∧ (k == 4) = false ∧ (k == 5) = false ∧ (k == 6) = false ∧ (k == 7) = false ∧ (k == 8) = true := by
  subst h
  decide

section
variable (x : Itm) {H : Snap} {ba : Option Addr} {bc : Nat} {ia : Option Addr} {ic : Nat} (w : World) (lv : Nat)
set_option maxRecDepth 100000 in
set_option maxHeartbeats 3200000 in
theorem raw_num (hk : x.kind = 0 ∨ x.kind = 1) (hg : Good x lv) (hx : IsItem H ba bc ia ic x) :
    Calls Tryd.prog 42 #[itemV x ba bc ia ic] w fun e w' => ∃ r, e = .returned r ∧ Fresh w (encB x) r w' := by
  have E : Hid (encB x = headB x.kind.toNat x.n) := enc_num hg hk
  have h0 : 0 ≤ x.kind := by omega
  have h8 : x.kind < 8 := by omega
  have HN := Lib.hid hx.bounds.2.2.1
  have D := Lib.hid (ref_Head x.kind (x.n : Int) (w.alloc (itemO x ba bc ia ic)) h0 h8 (by omega) (by have := HN.out; omega))
  have hb0 := below_box w (itemO x ba bc ia ic)
  rw [Int.toNat_natCast] at D
  clear hx hg h0 h8
  rcases hk with hk | hk
  · obtain ⟨b0, b1, b2, b3, b4, b5, b6, b7, b8⟩ := kinds0 hk
    clear hk
    go_enter Tryd.func42, Tryd.ntmps42
    go_wp2_with fail
    refine D.out.mono ?_
    rintro e w1 ⟨r, rfl, hf⟩
    go_wp2_with fail
    go_ret
    exact ⟨_, rfl, by rw [E.out]; exact hf.step hb0⟩
  · obtain ⟨b0, b1, b2, b3, b4, b5, b6, b7, b8⟩ := kinds1 hk
    clear hk
    go_enter Tryd.func42, Tryd.ntmps42
    go_wp2_with fail
    refine D.out.mono ?_
    rintro e w1 ⟨r, rfl, hf⟩
    go_wp2_with fail
    go_ret
    exact ⟨_, rfl, by rw [E.out]; exact hf.step hb0⟩
set_option maxRecDepth 100000 in
set_option maxHeartbeats 3200000 in
theorem raw_simple (hk : x.kind = 7) (hg : Good x lv) (hx : IsItem H ba bc ia ic x) :
    Calls Tryd.prog 42 #[itemV x ba bc ia ic] w fun e w' => ∃ r, e = .returned r ∧ Fresh w (encB x) r w' := by
  have E0 := enc_simple hg hk
  have HN := Lib.hid hx.bounds.2.2.1
  have hb0 := below_box w (itemO x ba bc ia ic)
  obtain ⟨b0, b1, b2, b3, b4, b5, b6, b7, b8⟩ := kinds7 hk
  clear hx hg hk
  by_cases h24 : x.n < 24
  · rw [if_pos h24] at E0
    have E := Lib.hid E0
    have hi : (x.n : Int) < 24 := by omega
    clear E0
    go_enter Tryd.func42, Tryd.ntmps42
    go_wp2_with fail
    go_ret
    refine ⟨_, rfl, ?_⟩
    rw [E.out]
    refine (Fresh.litAt (w.alloc (itemO x ba bc ia ic)) [u8 (224 + x.n)] _ 1 _ (by simp) rfl (by simp) ?_).step hb0
    simp only [List.map_cons, List.map_nil, byteV_u8]
    congr 2
    omega
  · rw [if_neg h24] at E0
    have E := Lib.hid E0
    have hi : ¬ (x.n : Int) < 24 := by omega
    clear E0
    go_enter Tryd.func42, Tryd.ntmps42
    go_wp2_with fail
    go_ret
    refine ⟨_, rfl, ?_⟩
    rw [E.out]
    refine (Fresh.litAt (w.alloc (itemO x ba bc ia ic)) [u8 248, u8 x.n] _ 2 _ (by simp) rfl (by simp) ?_).step hb0
    simp only [List.map_cons, List.map_nil, byteV_u8]
    simp
set_option maxRecDepth 100000 in
set_option maxHeartbeats 3200000 in
theorem raw_float (hk : x.kind = 8) (hx : IsItem H ba bc ia ic x) :
    Calls Tryd.prog 42 #[itemV x ba bc ia ic] w fun e w' => ∃ r, e = .returned r ∧ Fresh w (encB x) r w' := by
  have E : Hid (encB x = floatB x.n) := by rw [Hid, encB_eq, if_pos hk]
  have D := Lib.hid (ref_float x.n hx.bounds.2.2.1 (w.alloc (itemO x ba bc ia ic)))
  have hb0 := below_box w (itemO x ba bc ia ic)
  obtain ⟨b0, b1, b2, b3, b4, b5, b6, b7, b8⟩ := kinds8 hk
  clear hx hk
  go_enter Tryd.func42, Tryd.ntmps42
  go_wp2_with fail
  refine D.out.mono ?_
  rintro e w1 ⟨r, rfl, hf⟩
  go_wp2_with fail
  go_ret
  exact ⟨_, rfl, by rw [E.out]; exact hf.step hb0⟩
set_option maxRecDepth 100000 in
set_option maxHeartbeats 3200000 in
theorem raw_str (hk : x.kind = 2 ∨ x.kind = 3) (hg : Good x lv) (hl : (encB x).length ≤ 1099511627776) (hx : IsItem H ba bc ia ic x) (hH : Holds w H) :
    Calls Tryd.prog 42 #[itemV x ba bc ia ic] w fun e w' => ∃ r, e = .returned r ∧ Fresh w (encB x) r w' := by
  have e0 := enc_str hg hk
  rw [e0, List.length_append] at hl
  have E := Lib.hid e0
  have h0 : 0 ≤ x.kind := by omega
  have h8 : x.kind < 8 := by omega
  have hlb : x.bytes.length ≤ 9223372036854775807 := by have := hx.bounds; omega
  have hl' : x.bytes.length < 18446744073709551616 := by omega
  have HL := Lib.hid hl'
  have KW : IntKind.u64.wrap (x.bytes.length : Int) = (x.bytes.length : Int) := IntWalk.u64_in _ (by omega)
  have D := fun w1 : World => ref_Head x.kind (x.bytes.length : Int) w1 h0 h8 (by omega) (by have := HL.out; omega)
  have hb0 := (below_box w (itemO x ba bc ia ic)).drew
  have hB := Blk.new w 26 #[.int .i64 x.kind, .int .u64 x.n, .slice ba x.bytes.length bc, .slice ia x.items.length ic]
  have hB := hB.drew
  have hs : Src (w.alloc (itemO x ba bc ia ic)).drew _ _ := (Src.of_row hx.bytes.row hH).alloc (itemO x ba bc ia ic)
  simp only [Int.toNat_natCast] at D
  have DD := Lib.hid D
  clear hg h0 h8 e0 hx D hl'
  rcases hk with hk | hk
  · obtain ⟨b0, b1, b2, b3, b4, b5, b6, b7, b8⟩ := kinds2 hk
    clear hk
    go_enter Tryd.func42, Tryd.ntmps42
    go_upto_region 9 with fail
    refine wp_region_ways 10 (fun w' => w'.cell? ⟨w.heap.size, 0, none⟩ = some (.int .i64 x.kind) ∧ w'.cell? ⟨w.heap.size, 2, none⟩ = some (.slice ba x.bytes.length bc)) (by kernel_rfl) (⟨hB.cell 0 rfl, hB.cell 2 rfl⟩) (fun hHeld => ?_)
    refine Ways.take (i := 0) (v := ?_) rfl (by kernel_rfl) (fun _ _ _ h => h) (Or.inl ⟨by rfl, ?_⟩) hHeld ?_
    rotate_left
    · (intro w hSw; (try dsimp only at hSw); go_simp; try with_reducible rfl)
    try simp only [Act.put, List.setIfInBounds_toArray, List.set_cons_zero, List.set_cons_succ]
    refine Ways.take (i := 1) (v := ?_) rfl (by kernel_rfl) (fun _ _ _ h => h) (Or.inl ⟨by rfl, ?_⟩) hHeld ?_
    rotate_left
    · (intro w hSw; (try dsimp only at hSw); go_simp; try with_reducible rfl)
    try simp only [Act.put, List.setIfInBounds_toArray, List.set_cons_zero, List.set_cons_succ]
    refine Ways.take (i := 2) (v := ?_) rfl (by kernel_rfl) (fun _ _ _ h => h) (Or.inl ⟨by rfl, ?_⟩) hHeld ?_
    rotate_left
    · (intro w hSw; (try dsimp only at hSw); go_simp; try with_reducible rfl)
    try simp only [Act.put, List.setIfInBounds_toArray, List.set_cons_zero, List.set_cons_succ]
    refine Ways.take (i := 3) (v := ?_) rfl (by kernel_rfl) (fun _ _ _ h => h) (Or.inl ⟨by rfl, ?_⟩) hHeld ?_
    rotate_left
    · (intro w hSw; (try dsimp only at hSw); go_simp; try with_reducible rfl)
    try simp only [Act.put, List.setIfInBounds_toArray, List.set_cons_zero, List.set_cons_succ]
    refine Ways.take (i := 4) (v := ?_) rfl (by kernel_rfl) (fun _ _ _ h => h) (Or.inl ⟨by rfl, ?_⟩) hHeld ?_
    rotate_left
    · (intro w hSw; (try dsimp only at hSw); go_simp; try with_reducible rfl)
    try simp only [Act.put, List.setIfInBounds_toArray, List.set_cons_zero, List.set_cons_succ]
    refine Ways.take (i := 5) (v := ?_) rfl (by kernel_rfl) (fun _ _ _ h => h) (Or.inl ⟨by rfl, ?_⟩) hHeld ?_
    rotate_left
    · (intro w hSw; (try dsimp only at hSw); go_simp; try with_reducible rfl)
    try simp only [Act.put, List.setIfInBounds_toArray, List.set_cons_zero, List.set_cons_succ]
    refine Ways.take (i := 7) (v := ?_) rfl (by kernel_rfl) (fun _ _ _ h => h) (Or.inl ⟨by rfl, ?_⟩) hHeld ?_
    rotate_left
    · (intro w hSw; (try dsimp only at hSw); go_simp; try with_reducible rfl)
    try simp only [Act.put, List.setIfInBounds_toArray, List.set_cons_zero, List.set_cons_succ]
    refine Ways.take (i := 8) (v := ?_) rfl (by kernel_rfl) (fun _ _ _ h => h) (Or.inl ⟨by rfl, ?_⟩) hHeld ?_
    rotate_left
    · (intro w hSw; (try dsimp only at hSw); go_simp; try with_reducible rfl)
    try simp only [Act.put, List.setIfInBounds_toArray, List.set_cons_zero, List.set_cons_succ]
    refine Ways.one (i := 6) rfl (by kernel_rfl) (fun K hK => ?_)
    go_simp
    refine (DD.out _).mono ?_
    rintro e w1 ⟨r, rfl, hf⟩
    have hB1 := hB.below hf.2
    have hs1 := hs.below hf.2
    have hb1 := hb0.trans (hf.2.mono hb0.size)
    have hz := hf.2.size
    obtain ⟨RA, rc, rfl, _⟩ := hf.own.form
    refine hK.out _ _ (fun _ => ?_) (fun hHeld => ?_)
    · exact ⟨hB1.cell 0 rfl, hB1.cell 2 rfl⟩
    clear hK K
    have hHeld := hHeld (by decide)
    try simp only [Act.put, List.setIfInBounds_toArray, List.set_cons_zero, List.set_cons_succ]
    refine Ways.one (i := 9) rfl (by kernel_rfl) (fun K hK => ?_)
    rw [if_pos (by rfl)]
    refine wp_app_bytes (.tmp 28) (.tmp 30) rfl w.heap.size _ _ rfl (hf.own.more hb0.size) _ x.bytes.length _ x.bytes rfl rfl hs1 (by omega) hb1.size fun v' w2 hO2 hg2 _ => ?_
    have hB2 := hB1.grown hg2 (fun h => by have := (hf.own.lt _ h).1; simp at this; omega)
    have hb2 := hb1.grown hg2 hb1.size (fun q hq => Nat.le_trans hb0.size (hf.own.lt q hq).1)
    refine hK.out _ _ (fun _ => ?_) (fun hHeld => ?_)
    · exact ⟨hB2.cell 0 rfl, hB2.cell 2 rfl⟩
    clear hK K
    have hHeld := hHeld (by decide)
    try simp only [Act.put, List.setIfInBounds_toArray, List.set_cons_zero, List.set_cons_succ]
    refine Ways.one (i := 10) rfl (by kernel_rfl) (fun K hK => ?_)
    go_simp
    refine hK.out _ _ (fun h => absurd rfl h) (fun _ => ?_)
    clear hK K
    try simp only [Act.put, List.setIfInBounds_toArray, List.set_cons_zero, List.set_cons_succ]
    refine Ways.done (by kernel_rfl) ?_
    go_wp2_with fail
    go_ret
    exact ⟨_, rfl, by rw [E.out]; exact ⟨hO2, hb2⟩⟩
  · obtain ⟨b0, b1, b2, b3, b4, b5, b6, b7, b8⟩ := kinds3 hk
    clear hk
    go_enter Tryd.func42, Tryd.ntmps42
    go_upto_region 9 with fail
    refine wp_region_ways 10 (fun w' => w'.cell? ⟨w.heap.size, 0, none⟩ = some (.int .i64 x.kind) ∧ w'.cell? ⟨w.heap.size, 2, none⟩ = some (.slice ba x.bytes.length bc)) (by kernel_rfl) (⟨hB.cell 0 rfl, hB.cell 2 rfl⟩) (fun hHeld => ?_)
    refine Ways.take (i := 0) (v := ?_) rfl (by kernel_rfl) (fun _ _ _ h => h) (Or.inl ⟨by rfl, ?_⟩) hHeld ?_
    rotate_left
    · (intro w hSw; (try dsimp only at hSw); go_simp; try with_reducible rfl)
    try simp only [Act.put, List.setIfInBounds_toArray, List.set_cons_zero, List.set_cons_succ]
    refine Ways.take (i := 1) (v := ?_) rfl (by kernel_rfl) (fun _ _ _ h => h) (Or.inl ⟨by rfl, ?_⟩) hHeld ?_
    rotate_left
    · (intro w hSw; (try dsimp only at hSw); go_simp; try with_reducible rfl)
    try simp only [Act.put, List.setIfInBounds_toArray, List.set_cons_zero, List.set_cons_succ]
    refine Ways.take (i := 2) (v := ?_) rfl (by kernel_rfl) (fun _ _ _ h => h) (Or.inl ⟨by rfl, ?_⟩) hHeld ?_
    rotate_left
    · (intro w hSw; (try dsimp only at hSw); go_simp; try with_reducible rfl)
    try simp only [Act.put, List.setIfInBounds_toArray, List.set_cons_zero, List.set_cons_succ]
    refine Ways.take (i := 3) (v := ?_) rfl (by kernel_rfl) (fun _ _ _ h => h) (Or.inl ⟨by rfl, ?_⟩) hHeld ?_
    rotate_left
    · (intro w hSw; (try dsimp only at hSw); go_simp; try with_reducible rfl)
    try simp only [Act.put, List.setIfInBounds_toArray, List.set_cons_zero, List.set_cons_succ]
    refine Ways.take (i := 4) (v := ?_) rfl (by kernel_rfl) (fun _ _ _ h => h) (Or.inl ⟨by rfl, ?_⟩) hHeld ?_
    rotate_left
    · (intro w hSw; (try dsimp only at hSw); go_simp; try with_reducible rfl)
    try simp only [Act.put, List.setIfInBounds_toArray, List.set_cons_zero, List.set_cons_succ]
    refine Ways.take (i := 5) (v := ?_) rfl (by kernel_rfl) (fun _ _ _ h => h) (Or.inl ⟨by rfl, ?_⟩) hHeld ?_
    rotate_left
    · (intro w hSw; (try dsimp only at hSw); go_simp; try with_reducible rfl)
    try simp only [Act.put, List.setIfInBounds_toArray, List.set_cons_zero, List.set_cons_succ]
    refine Ways.take (i := 7) (v := ?_) rfl (by kernel_rfl) (fun _ _ _ h => h) (Or.inl ⟨by rfl, ?_⟩) hHeld ?_
    rotate_left
    · (intro w hSw; (try dsimp only at hSw); go_simp; try with_reducible rfl)
    try simp only [Act.put, List.setIfInBounds_toArray, List.set_cons_zero, List.set_cons_succ]
    refine Ways.take (i := 8) (v := ?_) rfl (by kernel_rfl) (fun _ _ _ h => h) (Or.inl ⟨by rfl, ?_⟩) hHeld ?_
    rotate_left
    · (intro w hSw; (try dsimp only at hSw); go_simp; try with_reducible rfl)
    try simp only [Act.put, List.setIfInBounds_toArray, List.set_cons_zero, List.set_cons_succ]
    refine Ways.one (i := 6) rfl (by kernel_rfl) (fun K hK => ?_)
    go_simp
    refine (DD.out _).mono ?_
    rintro e w1 ⟨r, rfl, hf⟩
    have hB1 := hB.below hf.2
    have hs1 := hs.below hf.2
    have hb1 := hb0.trans (hf.2.mono hb0.size)
    have hz := hf.2.size
    obtain ⟨RA, rc, rfl, _⟩ := hf.own.form
    refine hK.out _ _ (fun _ => ?_) (fun hHeld => ?_)
    · exact ⟨hB1.cell 0 rfl, hB1.cell 2 rfl⟩
    clear hK K
    have hHeld := hHeld (by decide)
    try simp only [Act.put, List.setIfInBounds_toArray, List.set_cons_zero, List.set_cons_succ]
    refine Ways.one (i := 9) rfl (by kernel_rfl) (fun K hK => ?_)
    rw [if_pos (by rfl)]
    refine wp_app_bytes (.tmp 28) (.tmp 30) rfl w.heap.size _ _ rfl (hf.own.more hb0.size) _ x.bytes.length _ x.bytes rfl rfl hs1 (by omega) hb1.size fun v' w2 hO2 hg2 _ => ?_
    have hB2 := hB1.grown hg2 (fun h => by have := (hf.own.lt _ h).1; simp at this; omega)
    have hb2 := hb1.grown hg2 hb1.size (fun q hq => Nat.le_trans hb0.size (hf.own.lt q hq).1)
    refine hK.out _ _ (fun _ => ?_) (fun hHeld => ?_)
    · exact ⟨hB2.cell 0 rfl, hB2.cell 2 rfl⟩
    clear hK K
    have hHeld := hHeld (by decide)
    try simp only [Act.put, List.setIfInBounds_toArray, List.set_cons_zero, List.set_cons_succ]
    refine Ways.one (i := 10) rfl (by kernel_rfl) (fun K hK => ?_)
    go_simp
    refine hK.out _ _ (fun h => absurd rfl h) (fun _ => ?_)
    clear hK K
    try simp only [Act.put, List.setIfInBounds_toArray, List.set_cons_zero, List.set_cons_succ]
    refine Ways.done (by kernel_rfl) ?_
    go_wp2_with fail
    go_ret
    exact ⟨_, rfl, by rw [E.out]; exact ⟨hO2, hb2⟩⟩
end
end Go.Proofs.YtdbhgngikglmcaaDoor
namespace Go.Proofs.YtdbhgngikglmcaaDoor
open Go.RowKit

set_option maxRecDepth 100000 in
set_option maxHeartbeats 3200000 in
theorem raw_more (x : Itm) (hk : 4 ≤ x.kind ∧ x.kind ≤ 6) (ih : ∀ y : Itm, cnt y < cnt x → RawSaid y) : RawSaid x := by
  intro H k n ba bl bc ia il ic w lv hg hl hx hH
  obtain ⟨rfl, rfl, rfl, rfl, hxi⟩ := hx.eqs_
  have hx := hxi
  have hbd := hx.bounds
  have e0 := enc_more hg hk
  rw [e0, List.length_append] at hl
  have HL := Lib.hid hl
  have HG := Lib.hid hg.items
  have hf6 := frameOk_spec (show frameOk x lv = true by rcases nodeOk_cases hg.node with ⟨h1, _⟩ | ⟨_, h1⟩; (rw [isPlain_iff] at h1; omega); exact h1)
  have hB := Blk.new w 26 #[.int .i64 x.kind, .int .u64 x.n, .slice ba x.bytes.length bc, .slice ia x.items.length ic]
  have hb0 := below_box w (itemO x ba bc ia ic)
  have hil : x.items.length ≤ 9223372036854775807 := by omega
  have HX := Lib.hid hx
  have HN := Lib.hid hbd.2.2.1
  clear hl hbd hf6 hg hx
  have three : ∃ (q m : Int) (hd : List UInt8) (D : Hid (∀ w1 : World, Calls Tryd.prog 65 #[.int .i64 q, .int .u64 m] w1 fun e w' => ∃ r, e = .returned r ∧ Fresh w1 hd r w')),
      encB x = hd ++ encL x.items ∧ ((x.kind = 4 ∧ q = 4 ∧ m = x.items.length) ∨ (x.kind = 5 ∧ q = 5 ∧ m = (x.items.length : Int) / 2) ∨ (x.kind = 6 ∧ q = 6 ∧ m = x.n)) := by
    rcases (by omega : x.kind = 4 ∨ x.kind = 5 ∨ x.kind = 6) with h | h | h
    · refine ⟨4, x.items.length, _, fun w1 => ref_Head 4 _ w1 (by omega) (by omega) (by omega) (by omega), ?_, .inl ⟨h, rfl, rfl⟩⟩
      have : numP x = x.items.length := by simp [numP, h]
      rw [e0, h, this]; rfl
    · refine ⟨5, (x.items.length : Int) / 2, _, fun w1 => ref_Head 5 _ w1 (by omega) (by omega) (by omega) (by omega), ?_, .inr (.inl ⟨h, rfl, rfl⟩)⟩
      have : numP x = x.items.length / 2 := by simp [numP, h]
      rw [e0, h, this]; rfl
    · refine ⟨6, x.n, _, fun w1 => ref_Head 6 _ w1 (by omega) (by omega) (by omega) (by have := HN.out; omega), ?_, .inr (.inr ⟨h, rfl, rfl⟩)⟩
      have : numP x = x.n := by simp [numP, h]
      rw [e0, h, this]; rfl
  obtain ⟨q, m, hd, D, e1, h3⟩ := three
  have E := Lib.hid e1
  have hl2 : hd.length + (encL x.items).length ≤ 1099511627776 := by rw [← List.length_append, ← e1, e0, List.length_append]; exact HL.out
  have HL2 := Lib.hid hl2
  clear e0 e1 hl2 HL hk
  have KW : IntKind.u64.wrap (x.items.length : Int) = (x.items.length : Int) := IntWalk.u64_in _ (by omega)
  have KW2 : IntKind.u64.wrap ((x.items.length : Int) / 2) = (x.items.length : Int) / 2 := IntWalk.u64_in _ (by omega)
  rcases h3 with ⟨hk, rfl, rfl⟩ | ⟨hk, rfl, rfl⟩ | ⟨hk, rfl, rfl⟩
  · obtain ⟨b0, b1, b2, b3, b4, b5, b6, b7, b8⟩ := kinds4 hk
    clear hk
    go_enter Tryd.func42, Tryd.ntmps42
    go_wp2_with fail
    refine (D.out _).mono ?_
    rintro e w1 ⟨r, rfl, hf⟩
    have hB1 := hB.below hf.2
    have hb1 := hb0.trans (hf.2.mono hb0.size)
    have c3 := hB1.cell 3 rfl
    have hO1 := hf.own.more hb0.size
    obtain ⟨RA, rc, rfl, _⟩ := hO1.form
    clear hf
    go_wp2_with fail
    go_loopw [3, 69] (fun v3 v69 wr => ∃ (k : Nat) (VA : Option Addr) (vc vn : Nat) (l : List UInt8), k ≤ x.items.length ∧ v69 = .int .i64 k ∧ v3 = .slice VA vn vc ∧ OwnB wr w.heap.size (.slice VA vn vc) l ∧ vn = l.length ∧ (encB x = l ++ encL (x.items.drop k)) ∧ Below w.heap.size w wr) (fun _ v69 _ => x.items.length - (intOf v69).toNat)
    case atStart => exact ⟨0, _, _, _, _, Nat.zero_le _, rfl, rfl, hO1, rfl, by rw [E.out]; rfl, hb1⟩
    case round =>
      obtain ⟨k, VA, vc, vn, l, hkl, rfl, rfl, hOr, hvn, hel, hbr⟩ := hrel
      have HV := Lib.hid hvn
      have HE := Lib.hid hel
      clear hvn hel
      by_cases hlt : k < x.items.length
      · have hHr : Holds wr H := hH.below hbr (Nat.le_refl _)
        obtain ⟨ib, io, hia, hel⟩ := HX.out.items (by omega)
        obtain ⟨eba, ebc, eia, eic, q0, q1, q2, q3, hex⟩ := hel.get k hlt
        subst hia
        have p0 := hHr.cell q0
        have p1 := hHr.cell q1
        have p2 := hHr.cell q2
        have p3 := hHr.cell q3
        have hfin : encL (x.items.drop k) = encB x.items[k] ++ encL (x.items.drop (k + 1)) := by rw [List.drop_eq_getElem_cons hlt, encL]
        have hlen5 : l.length + (encB x.items[k]).length ≤ 1099511627776 := by
          have h1 := HL2.out
          rw [← List.length_append, ← E.out, HE.out, hfin] at h1
          simp only [List.length_append] at h1
          omega
        have HF : Hid (encB x = (l ++ encB x.items[k]) ++ encL (x.items.drop (k + 1))) := by rw [Hid, HE.out, hfin, List.append_assoc]
        have IHC := ih x.items[k] (cnt_items x k hlt) H _ _ eba _ ebc eia _ eic (wr.alloc (.cells #[.int .i64 x.items[k].kind, .int .u64 x.items[k].n, .slice eba x.items[k].bytes.length ebc, .slice eia x.items[k].items.length eic] 26)) (lv + 1)
          (HG.out.get _ (List.getElem_mem hlt)) (by omega) hex.arg (hHr.alloc _)
        have IHH := Lib.hid IHC
        have hbr5 := hbr.alloc hbr.size (itemO x.items[k] eba ebc eia eic)
        have hO5 := hOr.alloc (itemO x.items[k] eba ebc eia eic)
        clear hfin q0 q1 q2 q3 IHC hOr
        go_wp2_with fail
        refine IHH.out.mono ?_
        rintro e w6 ⟨r6, rfl, hf6⟩
        obtain ⟨SA, sc, rfl, _⟩ := hf6.own.form
        have hO6 := hO5.below hf6.2
        have hb6 := hbr5.trans (hf6.2.mono hbr5.size)
        have hlen6 := hlen5
        clear hlen5
        go_wp2_with (at_builtin; refine stop_in ?_)
        unfold Stopped
        obtain rfl := HV.out
        refine wpList_app_bytes rfl (.tmp 73) (.tmp 75) rfl w.heap.size _ _ rfl hO6 SA _ sc (encB x.items[k]) rfl rfl hf6.own.src hlen6 hb6.size fun v' w7 hO7 hg7 hat7 => ?_
        obtain ⟨VA', vc', rfl, _⟩ := hO7.form
        have hO7' : OwnB w7 w.heap.size (.slice VA' (l.length + (encB x.items[k]).length) vc') (l ++ encB x.items[k]) := by rw [← List.length_append]; exact hO7
        have hb7 := hb6.grown hg7 hb6.size (fun q hq => (hO6.lt q hq).1)
        clear hlen6 hO6 hO7 hg7 hat7 hf6 IHH p0 p1 p2 p3 hO5 hbr5 hb6 hbr
        go_wp2_with fail
        go_roundw
        case rel => exact ⟨k + 1, VA', vc', _, _, by omega, by go_num, rfl, hO7', by rw [List.length_append], HF.out, hb7⟩
        case measure => simp [intOf]; omega
      · have hkk : k = x.items.length := by omega
        subst hkk
        have HZ : Hid (encB x = l) := by rw [Hid, HE.out, List.drop_length, encL, List.append_nil]
        go_wp2_with fail
        go_ret
        obtain rfl := HV.out
        exact ⟨_, rfl, by rw [HZ.out]; exact ⟨hOr, hbr⟩⟩
  · obtain ⟨b0, b1, b2, b3, b4, b5, b6, b7, b8⟩ := kinds5 hk
    clear hk
    go_enter Tryd.func42, Tryd.ntmps42
    go_wp2_with fail
    refine (D.out _).mono ?_
    rintro e w1 ⟨r, rfl, hf⟩
    have hB1 := hB.below hf.2
    have hb1 := hb0.trans (hf.2.mono hb0.size)
    have c3 := hB1.cell 3 rfl
    have hO1 := hf.own.more hb0.size
    obtain ⟨RA, rc, rfl, _⟩ := hO1.form
    clear hf
    go_wp2_with fail
    go_loopw [3, 69] (fun v3 v69 wr => ∃ (k : Nat) (VA : Option Addr) (vc vn : Nat) (l : List UInt8), k ≤ x.items.length ∧ v69 = .int .i64 k ∧ v3 = .slice VA vn vc ∧ OwnB wr w.heap.size (.slice VA vn vc) l ∧ vn = l.length ∧ (encB x = l ++ encL (x.items.drop k)) ∧ Below w.heap.size w wr) (fun _ v69 _ => x.items.length - (intOf v69).toNat)
    case atStart => exact ⟨0, _, _, _, _, Nat.zero_le _, rfl, rfl, hO1, rfl, by rw [E.out]; rfl, hb1⟩
    case round =>
      obtain ⟨k, VA, vc, vn, l, hkl, rfl, rfl, hOr, hvn, hel, hbr⟩ := hrel
      have HV := Lib.hid hvn
      have HE := Lib.hid hel
      clear hvn hel
      by_cases hlt : k < x.items.length
      · have hHr : Holds wr H := hH.below hbr (Nat.le_refl _)
        obtain ⟨ib, io, hia, hel⟩ := HX.out.items (by omega)
        obtain ⟨eba, ebc, eia, eic, q0, q1, q2, q3, hex⟩ := hel.get k hlt
        subst hia
        have p0 := hHr.cell q0
        have p1 := hHr.cell q1
        have p2 := hHr.cell q2
        have p3 := hHr.cell q3
        have hfin : encL (x.items.drop k) = encB x.items[k] ++ encL (x.items.drop (k + 1)) := by rw [List.drop_eq_getElem_cons hlt, encL]
        have hlen5 : l.length + (encB x.items[k]).length ≤ 1099511627776 := by
          have h1 := HL2.out
          rw [← List.length_append, ← E.out, HE.out, hfin] at h1
          simp only [List.length_append] at h1
          omega
        have HF : Hid (encB x = (l ++ encB x.items[k]) ++ encL (x.items.drop (k + 1))) := by rw [Hid, HE.out, hfin, List.append_assoc]
        have IHC := ih x.items[k] (cnt_items x k hlt) H _ _ eba _ ebc eia _ eic (wr.alloc (.cells #[.int .i64 x.items[k].kind, .int .u64 x.items[k].n, .slice eba x.items[k].bytes.length ebc, .slice eia x.items[k].items.length eic] 26)) (lv + 1)
          (HG.out.get _ (List.getElem_mem hlt)) (by omega) hex.arg (hHr.alloc _)
        have IHH := Lib.hid IHC
        have hbr5 := hbr.alloc hbr.size (itemO x.items[k] eba ebc eia eic)
        have hO5 := hOr.alloc (itemO x.items[k] eba ebc eia eic)
        clear hfin q0 q1 q2 q3 IHC hOr
        go_wp2_with fail
        refine IHH.out.mono ?_
        rintro e w6 ⟨r6, rfl, hf6⟩
        obtain ⟨SA, sc, rfl, _⟩ := hf6.own.form
        have hO6 := hO5.below hf6.2
        have hb6 := hbr5.trans (hf6.2.mono hbr5.size)
        have hlen6 := hlen5
        clear hlen5
        go_wp2_with (at_builtin; refine stop_in ?_)
        unfold Stopped
        obtain rfl := HV.out
        refine wpList_app_bytes rfl (.tmp 73) (.tmp 75) rfl w.heap.size _ _ rfl hO6 SA _ sc (encB x.items[k]) rfl rfl hf6.own.src hlen6 hb6.size fun v' w7 hO7 hg7 hat7 => ?_
        obtain ⟨VA', vc', rfl, _⟩ := hO7.form
        have hO7' : OwnB w7 w.heap.size (.slice VA' (l.length + (encB x.items[k]).length) vc') (l ++ encB x.items[k]) := by rw [← List.length_append]; exact hO7
        have hb7 := hb6.grown hg7 hb6.size (fun q hq => (hO6.lt q hq).1)
        clear hlen6 hO6 hO7 hg7 hat7 hf6 IHH p0 p1 p2 p3 hO5 hbr5 hb6 hbr
        go_wp2_with fail
        go_roundw
        case rel => exact ⟨k + 1, VA', vc', _, _, by omega, by go_num, rfl, hO7', by rw [List.length_append], HF.out, hb7⟩
        case measure => simp [intOf]; omega
      · have hkk : k = x.items.length := by omega
        subst hkk
        have HZ : Hid (encB x = l) := by rw [Hid, HE.out, List.drop_length, encL, List.append_nil]
        go_wp2_with fail
        go_ret
        obtain rfl := HV.out
        exact ⟨_, rfl, by rw [HZ.out]; exact ⟨hOr, hbr⟩⟩
  · obtain ⟨b0, b1, b2, b3, b4, b5, b6, b7, b8⟩ := kinds6 hk
    clear hk
    go_enter Tryd.func42, Tryd.ntmps42
    go_wp2_with fail
    refine (D.out _).mono ?_
    rintro e w1 ⟨r, rfl, hf⟩
    have hB1 := hB.below hf.2
    have hb1 := hb0.trans (hf.2.mono hb0.size)
    have c3 := hB1.cell 3 rfl
    have hO1 := hf.own.more hb0.size
    obtain ⟨RA, rc, rfl, _⟩ := hO1.form
    clear hf
    go_wp2_with fail
    go_loopw [3, 69] (fun v3 v69 wr => ∃ (k : Nat) (VA : Option Addr) (vc vn : Nat) (l : List UInt8), k ≤ x.items.length ∧ v69 = .int .i64 k ∧ v3 = .slice VA vn vc ∧ OwnB wr w.heap.size (.slice VA vn vc) l ∧ vn = l.length ∧ (encB x = l ++ encL (x.items.drop k)) ∧ Below w.heap.size w wr) (fun _ v69 _ => x.items.length - (intOf v69).toNat)
    case atStart => exact ⟨0, _, _, _, _, Nat.zero_le _, rfl, rfl, hO1, rfl, by rw [E.out]; rfl, hb1⟩
    case round =>
      obtain ⟨k, VA, vc, vn, l, hkl, rfl, rfl, hOr, hvn, hel, hbr⟩ := hrel
      have HV := Lib.hid hvn
      have HE := Lib.hid hel
      clear hvn hel
      by_cases hlt : k < x.items.length
      · have hHr : Holds wr H := hH.below hbr (Nat.le_refl _)
        obtain ⟨ib, io, hia, hel⟩ := HX.out.items (by omega)
        obtain ⟨eba, ebc, eia, eic, q0, q1, q2, q3, hex⟩ := hel.get k hlt
        subst hia
        have p0 := hHr.cell q0
        have p1 := hHr.cell q1
        have p2 := hHr.cell q2
        have p3 := hHr.cell q3
        have hfin : encL (x.items.drop k) = encB x.items[k] ++ encL (x.items.drop (k + 1)) := by rw [List.drop_eq_getElem_cons hlt, encL]
        have hlen5 : l.length + (encB x.items[k]).length ≤ 1099511627776 := by
          have h1 := HL2.out
          rw [← List.length_append, ← E.out, HE.out, hfin] at h1
          simp only [List.length_append] at h1
          omega
        have HF : Hid (encB x = (l ++ encB x.items[k]) ++ encL (x.items.drop (k + 1))) := by rw [Hid, HE.out, hfin, List.append_assoc]
        have IHC := ih x.items[k] (cnt_items x k hlt) H _ _ eba _ ebc eia _ eic (wr.alloc (.cells #[.int .i64 x.items[k].kind, .int .u64 x.items[k].n, .slice eba x.items[k].bytes.length ebc, .slice eia x.items[k].items.length eic] 26)) (lv + 1)
          (HG.out.get _ (List.getElem_mem hlt)) (by omega) hex.arg (hHr.alloc _)
        have IHH := Lib.hid IHC
        have hbr5 := hbr.alloc hbr.size (itemO x.items[k] eba ebc eia eic)
        have hO5 := hOr.alloc (itemO x.items[k] eba ebc eia eic)
        clear hfin q0 q1 q2 q3 IHC hOr
        go_wp2_with fail
        refine IHH.out.mono ?_
        rintro e w6 ⟨r6, rfl, hf6⟩
        obtain ⟨SA, sc, rfl, _⟩ := hf6.own.form
        have hO6 := hO5.below hf6.2
        have hb6 := hbr5.trans (hf6.2.mono hbr5.size)
        have hlen6 := hlen5
        clear hlen5
        go_wp2_with (at_builtin; refine stop_in ?_)
        unfold Stopped
        obtain rfl := HV.out
        refine wpList_app_bytes rfl (.tmp 73) (.tmp 75) rfl w.heap.size _ _ rfl hO6 SA _ sc (encB x.items[k]) rfl rfl hf6.own.src hlen6 hb6.size fun v' w7 hO7 hg7 hat7 => ?_
        obtain ⟨VA', vc', rfl, _⟩ := hO7.form
        have hO7' : OwnB w7 w.heap.size (.slice VA' (l.length + (encB x.items[k]).length) vc') (l ++ encB x.items[k]) := by rw [← List.length_append]; exact hO7
        have hb7 := hb6.grown hg7 hb6.size (fun q hq => (hO6.lt q hq).1)
        clear hlen6 hO6 hO7 hg7 hat7 hf6 IHH p0 p1 p2 p3 hO5 hbr5 hb6 hbr
        go_wp2_with fail
        go_roundw
        case rel => exact ⟨k + 1, VA', vc', _, _, by omega, by go_num, rfl, hO7', by rw [List.length_append], HF.out, hb7⟩
        case measure => simp [intOf]; omega
      · have hkk : k = x.items.length := by omega
        subst hkk
        have HZ : Hid (encB x = l) := by rw [Hid, HE.out, List.drop_length, encL, List.append_nil]
        go_wp2_with fail
        go_ret
        obtain rfl := HV.out
        exact ⟨_, rfl, by rw [HZ.out]; exact ⟨hOr, hbr⟩⟩

theorem ref_Raw (x : Itm) : RawSaid x := by
  have main : ∀ N, ∀ x : Itm, cnt x ≤ N → RawSaid x := by
    intro N
    induction N with
    | zero =>
      intro x hx
      have : 0 < cnt x := by cases x; rw [cnt]; omega
      omega
    | succ N ih =>
      intro x hx
      by_cases hk : 4 ≤ x.kind ∧ x.kind ≤ 6
      · exact raw_more x hk fun y hy => ih y (by omega)
      · intro H k n ba bl bc ia il ic w lv hg hl ha hH
        obtain ⟨rfl, rfl, rfl, rfl, hi⟩ := ha.eqs_
        have hkk := nodeOk_kind hg.node
        rcases (by omega : (x.kind = 0 ∨ x.kind = 1) ∨ (x.kind = 2 ∨ x.kind = 3) ∨ x.kind = 7 ∨ x.kind = 8) with h | h | h | h
        · exact raw_num x w lv h hg hi
        · exact raw_str x w lv h hg hl hi hH
        · exact raw_simple x w lv h hg hi
        · exact raw_float x w h hi
  exact main _ x (Nat.le_refl _)
end Go.Proofs.YtdbhgngikglmcaaDoor
namespace Go.Proofs.YtdbhgngikglmcaaDoor
open Go.RowKit

def leftI : Option Nat → Int
  | none => -1
  | some r => r
def LeftSaid (x : Itm) : Prop := ∀ (H : Snap), Tabs H → ∀ (k n : Int) (ba : Option Addr) (bl bc : Nat) (ia : Option Addr) (il ic : Nat) (w : World) (c d : Nat),
  ItemA H k n ba bl bc ia il ic x → Holds w H → c ≤ 65536 → d ≤ 65536 →
  Calls Tryd.prog 64 #[.agg #[.int .i64 k, .int .u64 n, .slice ba bl bc, .slice ia il ic], .int .i64 c, .int .i64 d] w fun e w' => e = .returned (.int .i64 (leftI (leftP x c d))) ∧ Below w.heap.size w w'
set_option maxRecDepth 100000 in
theorem left_zero (x : Itm) {H : Snap} {ba : Option Addr} {bc : Nat} {ia : Option Addr} {ic : Nat} (w : World) (d : Nat) :
    Calls Tryd.prog 64 #[itemV x ba bc ia ic, .int .i64 0, .int .i64 d] w fun e w' => e = .returned (.int .i64 (leftI (leftP x 0 d))) ∧ Below w.heap.size w w' := by
  have E : Hid (leftP x 0 d = none) := by rw [Hid, leftP_eq, if_pos (by omega)]
  go_enter Tryd.func64, Tryd.ntmps64
  go_wp2_with fail
  go_ret
  exact ⟨by rw [E.out]; rfl, below_box w _⟩
theorem left_none {x : Itm} {c d : Nat} (h : nodeR x d (c - 1) = false) : leftP x c d = none := by
  rw [leftP_eq]
  by_cases h1 : c < 1
  · rw [if_pos h1]
  · rw [if_neg h1, if_pos h]
theorem nodeR_01 {x : Itm} {d m : Nat} (hk : x.kind = 0 ∨ x.kind = 1) : nodeR x d m = true ↔ x.bytes.length = 0 ∧ x.items.length = 0 := by
  have hp := (isPlain_iff x).2 (by omega)
  unfold nodeR nodeOk okPlain
  rw [if_pos hp, if_pos hk]
  simp only [Bool.and_eq_true, List.isEmpty_iff, decide_eq_true_eq, List.length_eq_zero_iff]
  constructor
  · rintro ⟨⟨⟨a, b⟩, _⟩, _⟩; exact ⟨a, b⟩
  · rintro ⟨a, b⟩; exact ⟨⟨⟨a, b⟩, by rw [a]; simp⟩, by rw [b]; simp⟩
theorem nodeR_2 {x : Itm} {d m : Nat} (hk : x.kind = 2) : nodeR x d m = true ↔ x.n = 0 ∧ x.items.length = 0 ∧ x.bytes.length ≤ 4096 := by
  have hp := (isPlain_iff x).2 (by omega)
  unfold nodeR nodeOk okPlain
  rw [if_pos hp, if_neg (by omega), if_pos hk]
  simp only [Bool.and_eq_true, List.isEmpty_iff, decide_eq_true_eq, List.length_eq_zero_iff, beq_iff_eq]
  constructor
  · rintro ⟨⟨⟨a, b⟩, c⟩, _⟩; exact ⟨a, b, c⟩
  · rintro ⟨a, b, c⟩; exact ⟨⟨⟨a, b⟩, c⟩, by rw [b]; simp⟩
theorem nodeR_3 {x : Itm} {d m : Nat} (hk : x.kind = 3) : nodeR x d m = true ↔ x.n = 0 ∧ x.items.length = 0 ∧ x.bytes.length ≤ 4096 ∧ Lib.validD x.bytes = true := by
  have hp := (isPlain_iff x).2 (by omega)
  unfold nodeR nodeOk okPlain
  rw [if_pos hp, if_neg (by omega), if_neg (by omega), if_pos hk]
  simp only [Bool.and_eq_true, List.isEmpty_iff, decide_eq_true_eq, List.length_eq_zero_iff, beq_iff_eq]
  constructor
  · rintro ⟨⟨⟨⟨a, b⟩, v⟩, c⟩, _⟩; exact ⟨a, b, c, v⟩
  · rintro ⟨a, b, c, v⟩; exact ⟨⟨⟨⟨a, b⟩, v⟩, c⟩, by rw [b]; simp⟩
theorem nodeR_7 {x : Itm} {d m : Nat} (hk : x.kind = 7) : nodeR x d m = true ↔ x.bytes.length = 0 ∧ x.items.length = 0 ∧ (x.n < 24 ∨ (32 ≤ x.n ∧ x.n < 256)) := by
  have hp := (isPlain_iff x).2 (by omega)
  unfold nodeR nodeOk okPlain
  rw [if_pos hp, if_neg (by omega), if_neg (by omega), if_neg (by omega), if_pos hk]
  simp only [Bool.and_eq_true, Bool.or_eq_true, List.isEmpty_iff, decide_eq_true_eq, List.length_eq_zero_iff, beq_iff_eq]
  constructor
  · rintro ⟨⟨⟨⟨a, b⟩, v⟩, _⟩, _⟩; exact ⟨a, b, v⟩
  · rintro ⟨a, b, v⟩; exact ⟨⟨⟨⟨a, b⟩, v⟩, by rw [a]; simp⟩, by rw [b]; simp⟩
theorem nodeR_8 {x : Itm} {d m : Nat} (hk : x.kind = 8) : nodeR x d m = true ↔ x.bytes.length = 0 ∧ x.items.length = 0 ∧ (isNaN x.n = false ∨ x.n = notNumber) := by
  have hp := (isPlain_iff x).2 (by omega)
  unfold nodeR nodeOk okPlain
  rw [if_pos hp, if_neg (by omega), if_neg (by omega), if_neg (by omega), if_neg (by omega), if_pos hk]
  simp only [Bool.and_eq_true, Bool.or_eq_true, List.isEmpty_iff, decide_eq_true_eq, List.length_eq_zero_iff, beq_iff_eq, Bool.not_eq_true']
  constructor
  · rintro ⟨⟨⟨⟨a, b⟩, v⟩, _⟩, _⟩; exact ⟨a, b, v⟩
  · rintro ⟨a, b, v⟩; exact ⟨⟨⟨⟨a, b⟩, v⟩, by rw [a]; simp⟩, by rw [b]; simp⟩
theorem nodeR_456 {x : Itm} {d m : Nat} (hk : 4 ≤ x.kind ∧ x.kind ≤ 6) : nodeR x d m = true ↔ d < 8 ∧ x.bytes.length = 0 ∧ (x.kind = 6 → x.items.length = 1) ∧ (x.kind ≠ 6 → x.n = 0) ∧ (x.kind = 5 → x.items.length % 2 = 0) ∧ x.items.length ≤ m := by
  have hp : ¬ isPlain x = true := by rw [isPlain_iff]; omega
  unfold nodeR nodeOk frameOk
  rw [if_neg hp]
  simp only [Bool.and_eq_true, decide_eq_true_eq]
  constructor
  · rintro ⟨⟨⟨_, _, a, b, c, d, e⟩, _⟩, f⟩; exact ⟨a, b, c, d, e, f⟩
  · rintro ⟨a, b, c, d, e, f⟩; exact ⟨⟨⟨hk.1, hk.2, a, b, c, d, e⟩, by omega⟩, f⟩
theorem nodeR_out {x : Itm} {d m : Nat} (hk : x.kind < 0 ∨ 8 < x.kind) : nodeR x d m = false := by
  cases h : nodeR x d m with
  | false => rfl
  | true =>
    have := nodeOk_kind (nodeR_spec h).1
    omega
theorem left_flat {x : Itm} {c d : Nat} (hc : 0 < c) (h : nodeR x d (c - 1) = true) (h0 : x.items.length = 0) : leftP x c d = some (c - 1) := by
  rw [List.length_eq_zero_iff] at h0
  rw [leftP_eq, if_neg (by omega), if_neg (by simp [h]), h0, leftL]
  simp only
  rw [if_neg (by rintro ⟨_, h⟩; cases h)]
end Go.Proofs.YtdbhgngikglmcaaDoor
