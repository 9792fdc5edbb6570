/- Walks: the references' float. -/
import Derived.Test.YtebcnkelbicbnaaDoorK03
set_option linter.unusedVariables false
set_option linter.unusedSimpArgs false
namespace Go.Proofs.YtebcnkelbicbnaaDoor
open Go.RowKit

set_option maxRecDepth 100000 in
set_option maxHeartbeats 3200000 in
theorem ref_float (n : Nat) (hn : n < 18446744073709551616) (w : World) :
    Calls Tryd.prog 60 #[.int .u64 (n : Int)] w fun e w' => ∃ r, e = .returned r ∧ Fresh w (floatB n) r w' := by
  have I := Lib.hid (ref_IsNaN n hn w)
  have N1 := Lib.hid (ref_Narrow16 n hn w)
  have N2 := Lib.hid (ref_Narrow32 n hn w)
  have HN := Lib.hid hn
  clear hn
  cases hN : isNaN n with
  | true =>
    rw [hN] at I
    have E : Hid (floatB n = [u8 249, u8 126, u8 0]) := by rw [Hid, floatB, if_pos hN]
    clear hN
    go_enter Tryd.func60, Tryd.ntmps60
    go_wp2_with fail
    refine I.out.mono ?_
    rintro e w' ⟨rfl, rfl⟩
    go_wp2_with fail
    go_ret
    refine ⟨_, rfl, ?_⟩
    rw [E.out]
    exact Fresh.lit w _ _ 3 rfl (by simp) rfl
  | false =>
    rw [hN] at I
    cases h1 : narrow n 5 10 with
    | some v =>
      have E : Hid (floatB n = [u8 249, u8 (v / 256), u8 v]) := by rw [Hid, floatB, if_neg (by simp [hN]), h1]
      rw [h1] at N1
      clear hN h1
      go_enter Tryd.func60, Tryd.ntmps60
      go_wp2_with fail
      refine I.out.mono ?_
      rintro e w' ⟨rfl, rfl⟩
      go_wp2_with fail
      refine N1.out.mono ?_
      rintro e w' ⟨⟨v', rfl, hv⟩, rfl⟩
      obtain rfl := hv v rfl
      clear hv
      go_wp2_with fail
      go_ret
      refine ⟨_, rfl, ?_⟩
      rw [E.out]
      refine Fresh.lit w _ _ 3 rfl (by simp) ?_
      simp only [List.map_cons, List.map_nil, byteV_u8]
      simp
    | none =>
      rw [h1] at N1
      cases h2 : narrow n 8 23 with
      | some v =>
        have E : Hid (floatB n = [u8 250, u8 (v / 16777216), u8 (v / 65536), u8 (v / 256), u8 v]) := by rw [Hid, floatB, if_neg (by simp [hN]), h1, h2]
        rw [h2] at N2
        clear hN h1 h2
        go_enter Tryd.func60, Tryd.ntmps60
        go_wp2_with fail
        refine I.out.mono ?_
        rintro e w' ⟨rfl, rfl⟩
        go_wp2_with fail
        refine N1.out.mono ?_
        rintro e w' ⟨⟨v', rfl, _⟩, rfl⟩
        go_wp2_with fail
        refine N2.out.mono ?_
        rintro e w' ⟨⟨v'', rfl, hv⟩, rfl⟩
        obtain rfl := hv v rfl
        clear hv
        go_wp2_with fail
        go_ret
        refine ⟨_, rfl, ?_⟩
        rw [E.out]
        refine Fresh.lit w _ _ 5 rfl (by simp) ?_
        simp only [List.map_cons, List.map_nil, byteV_u8]
        simp
      | none =>
        have E : Hid (floatB n = u8 251 :: tailB n 8 8) := by
          rw [Hid, floatB, if_neg (by simp [hN]), h1, h2]
          simp [tailB, be8, List.range_succ]
        rw [h2] at N2
        clear hN h1 h2
        have hO : OwnB (w.alloc (.cells #[.int .u8 251] 5)) w.heap.size (.slice (some ⟨w.heap.size, 0, none⟩) 1 1) [u8 251] := OwnB.lit w _ _ _ 1 rfl rfl (Nat.le_refl _) (by simp)
        have hb2 := below_box w (.cells #[.int .u8 251] 5)
        go_enter Tryd.func60, Tryd.ntmps60
        go_wp2_with fail
        refine I.out.mono ?_
        rintro e w' ⟨rfl, rfl⟩
        go_wp2_with fail
        refine N1.out.mono ?_
        rintro e w' ⟨⟨v', rfl, _⟩, rfl⟩
        go_wp2_with fail
        refine N2.out.mono ?_
        rintro e w' ⟨⟨v'', rfl, _⟩, rfl⟩
        go_wp2_with fail
        go_loopw [7, 8] (fun v7 v8 wr => ∃ (j : Nat) (VA : Option Addr) (vc : Nat), j ≤ 8 ∧ v8 = .int .i64 (7 - (j : Int)) ∧ v7 = .slice VA (1 + j) vc ∧ OwnB wr w.heap.size (.slice VA (1 + j) vc) (u8 251 :: tailB n 8 j) ∧ Below w.heap.size w wr) (fun _ v8 _ => (intOf v8 + 1).toNat)
        case atStart => exact ⟨0, _, _, by omega, by go_num, rfl, hO, hb2⟩
        case round =>
          obtain ⟨j, VA, vc, hj, rfl, rfl, hOr, hbr⟩ := hrel
          by_cases hlt : j < 8
          · have hge : (0 : Int) ≤ 7 - (j : Int) := by omega
            have hcell : (#[.int .u8 ((n : Int) / 2 ^ (8 * (7 - j)) % 256)] : Array Value).toList = [tailF n 8 j].map byteV := by
              simp only [List.map_cons, List.map_nil, tailF, byteV_u8]
              rw [show 8 - 1 - j = 7 - j by omega]
              simp
            have hb3 := hbr.alloc hbr.size (.cells #[.int .u8 ((n : Int) / 2 ^ (8 * (7 - j)) % 256)] 5)
            have hO3 := hOr.alloc (.cells #[.int .u8 ((n : Int) / 2 ^ (8 * (7 - j)) % 256)] 5)
            have HC := Lib.hid hcell
            clear hcell
            go_wp2_with (at_builtin; refine stop_in ?_)
            unfold Stopped
            refine wpList_app_bytes rfl (.tmp 47) (.tmp 54) rfl w.heap.size _ _ rfl hO3 _ 1 _ [tailF n 8 j] rfl rfl (Src.new _ _ _ _ rfl _ HC.out) (by simp [tailB_len]; omega) hb3.size fun v' w7 hO7 hg7 hat7 => ?_
            have hl7 : (u8 251 :: tailB n 8 j) ++ [tailF n 8 j] = u8 251 :: tailB n 8 (j + 1) := by rw [tailB_succ]; rfl
            obtain ⟨VA', vc', rfl, _⟩ := hO7.form
            have hll : ((u8 251 :: tailB n 8 j) ++ [tailF n 8 j]).length = 1 + (j + 1) := by simp [tailB_len]; omega
            rw [hll] at hO7
            rw [hll]
            rw [hl7] at hO7
            have hb7 := hb3.grown hg7 hb3.size (fun q hq => (hO3.lt q hq).1)
            clear hl7 hll hg7 hat7 hO3 hOr hb3 hbr
            go_wp2_with fail
            go_roundw
            case rel => exact ⟨j + 1, VA', vc', by omega, by rw [show ((j + 1 : Nat) : Int) = (j : Int) + 1 by omega, show (7 : Int) - ((j : Int) + 1) = 7 - j - 1 by omega], rfl, hO7, hb7⟩
            case measure => simp [intOf]; omega
          · have hjs : j = 8 := by omega
            subst hjs
            go_wp2_with fail
            go_ret
            rw [E.out]
            exact ⟨_, rfl, hOr, hbr⟩
end Go.Proofs.YtebcnkelbicbnaaDoor
