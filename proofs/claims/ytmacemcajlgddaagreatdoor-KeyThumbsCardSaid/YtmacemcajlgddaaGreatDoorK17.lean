/- squeezed. Walks: the references' Encode, Int -/
import Derived.Test.YtmacemcajlgddaaGreatDoorK13
import Derived.Test.YtmacemcajlgddaaGreatDoorK06
set_option linter.unusedVariables false
set_option linter.unusedSimpArgs false
set_option maxRecDepth 100000
set_option maxHeartbeats 1600000
namespace Go.Proofs.YtmacemcajlgddaaGreatDoor
open Go.RowKit
def EncSaidR (w : World) (x : Itm) (e : Ending) (w' : World) : Prop :=
 (validP x = false ∧ e = .returned (.tuple #[.slice none 0 0, .int .i64 1]) ∧ Below w.heap.size w w') ∨
 (validP x = true ∧ ∃ r, e = .returned (.tuple #[r, .int .i64 0]) ∧ Fresh w (encB x) r w')
theorem ref_Encode {H : Snap} (hT : Tabs H) {k n : Int} {ba : Option Addr} {bl bc : Nat} {ia : Option Addr} {il ic : Nat} {x : Itm} (hx : ItemA H k n ba bl bc ia il ic x) (w : World) (hH : Holds w H) :
  Calls Tryz.prog 34 #[.agg #[.int .i64 k, .int .u64 n, .slice ba bl bc, .slice ia il ic]] w (EncSaidR w x) := by
 obtain ⟨rfl, rfl, rfl, rfl, hxi⟩ := hx.eqs_;have hH1 := hH.alloc (itemO x ba bc ia ic);have hb1 := below_box w (itemO x ba bc ia ic);have hB1 := Blk.new w 54 #[.int .i64 x.kind, .int .u64 x.n, .slice ba x.bytes.length bc, .slice ia x.items.length ic];have V := Hh (ref_Valid hT hxi.arg _ hH1);go_enter Tryz.func34, Tryz.ntmps34
 go_wp2_with fail
 refine V.out.mono ?_
 rintro e w2 ⟨rfl, hb2⟩
 have hB2 := hB1.below hb2;have b0 := hB2.cell 0 rfl;have b1 := hB2.cell 1 rfl;have b2 := hB2.cell 2 rfl;have b3 := hB2.cell 3 rfl;have hH2 := hH1.below hb2 (Nat.le_refl _);have hb := hb1.trans (hb2.mono hb1.size)
 cases hv : validP x with
 | false =>
  have hv' := Hh hv;clear hv;go_wp2_with fail
  go_ret2
  exact .inl ⟨hv'.out, rfl, hb⟩
 | true =>
  have hg := (validP_iff x).1 hv;have A := Hh (ref_Raw x H _ _ ba _ bc ia _ ic w2 0 hg.1 (by omega) hxi.arg hH2);have hv' := Hh hv;clear hv hg;go_wp2_with fail
  refine A.out.mono ?_
  rintro e w3 ⟨r, rfl, hf⟩
  go_wp2_with fail
  go_ret2
  exact .inr ⟨hv'.out, _, rfl, hf.step hb⟩
theorem ref_Int (n : Int) (h1 : -9223372036854775808 ≤ n) (h2 : n ≤ 9223372036854775807) {H : Snap} (w : World) (hH : Holds w H) :
  Calls Tryz.prog 75 #[.int .i64 n] w fun e w' => ∃ v, e = .returned v ∧ Gives w H (intP n) v w' := by
 by_cases h0 : n < 0
 ·have E : Hid (intP n = .mk 1 (-1 - n).toNat [] [] ∧ (-1 - n).toNat < 18446744073709551616 ∧ -1 - n = ((-1 - n).toNat : Int)) := ⟨by rw [intP, if_pos h0], by omega, by omega⟩
  have K1 : IntKind.u64.wrap (-1 - n) = -1 - n := by rw [IntKind.wrap_u64]; omega
  have K0 : IntKind.i64.wrap (-1 - n) = -1 - n := IntWalk.i64_in _ (by omega);clear h1 h2;go_enter Tryz.func75, Tryz.ntmps75
  go_wp2_with fail
  refine ret_row rfl rfl (Blk.new _ _ _) rfl rfl size_item rfl ?_
  rw [E.out.1]
  exact ⟨_, rfl, Gives.plain hH (below_box _ _) (by omega) E.out.2.1 E.out.2.2⟩
 ·have E : Hid (intP n = .mk 0 n.toNat [] [] ∧ n.toNat < 18446744073709551616 ∧ n = (n.toNat : Int)) := ⟨by rw [intP, if_neg h0], by omega, by omega⟩
  have K1 : IntKind.u64.wrap n = n := by rw [IntKind.wrap_u64]; omega
  have hn := Int.not_lt.1 h0;clear h1 h2 h0;go_enter Tryz.func75, Tryz.ntmps75
  go_wp2_with fail
  refine ret_row rfl rfl (Blk.new _ _ _) rfl rfl size_item rfl ?_
  rw [E.out.1]
  exact ⟨_, rfl, Gives.plain hH (below_box _ _) (by omega) E.out.2.1 E.out.2.2⟩
theorem ref_Bytes {A : Option Addr} {n c : Nat} {l : List UInt8} (hn : n = l.length) (hl : l.length ≤ 1099511627776) {H : Snap} (w : World) (hs : Src w A (l.map byteV)) (hH : Holds w H) :
  Calls Tryz.prog 76 #[.slice A n c] w fun e w' => ∃ v, e = .returned v ∧ Gives w H (.mk 2 0 l []) v w' := by
 have HN := Hh hn;clear hn;have hs1 := hs.alloc zeroO;go_enter Tryz.func76, Tryz.ntmps76
 go_wp2_with (at_builtin; refine stop_in ?_)
 refine wpList_app_bytes rfl (.const (.slice none 0 0)) (.tmp 3) rfl (w.heap.size + 1) (.slice none 0 0) [] rfl (OwnB.nil _ _) A n c l rfl HN.out hs1 (by simp; omega) (by simp) fun v' w1 hO hg _ => ?_
 have hf : Fresh (w.alloc zeroO) l v' w1 := ⟨by have := hO.more (base' := (w.alloc zeroO).heap.size) (by simp); simpa [OwnB] using this, grown_none (by simpa [Value.ownBlock] using hg)⟩
 have hB := (Blk.new w 54 #[.int .i64 0, .int .u64 0, .slice none 0 0, .slice none 0 0]).below hf.2;have HF := Hh (hf.gives (k := 2) (hH.alloc zeroO) (by omega));obtain ⟨A', c', rfl, _⟩ := hf.own.form;clear hO hg hf;go_wp2_with (with_reducible refine stop_store ?_)
 refine stI hB fun w2 hB2 hG2 => ?_
 go_wp2_with fail
 refine ret_row rfl rfl hB2 rfl rfl size_item rfl ?_
 exact ⟨_, rfl, HF.out.own (below_box _ _) hH hG2 (Nat.le_refl _) (by simp)⟩
end Go.Proofs.YtmacemcajlgddaaGreatDoor
