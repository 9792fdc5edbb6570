/- squeezed. Walks: the references' Encode, Int -/
import Derived.Test.YtlebpackbfcfeaaDoorK08
import Derived.Test.YtlebpackbfcfeaaDoorK01
import Derived.Test.YtlebpackbfcfeaaDoorK09
import Derived.Test.YtlebpackbfcfeaaDoorK00
import Derived.Test.YtlebpackbfcfeaaDoorK04
import Derived.Test.YtlebpackbfcfeaaDoorK05
set_option linter.unusedVariables false
set_option linter.unusedSimpArgs false
set_option maxRecDepth 100000
namespace Go.Proofs.YtlebpackbfcfeaaDoor
open Go.RowKit
theorem ref_Int (n : Int) (h1 : -9223372036854775808 ≤ n) (h2 : n ≤ 9223372036854775807) {H : Snap} (w : World) (hH : Holds w H) :
  Calls Tryd.prog 36 #[.int .i64 n] w fun e w' => ∃ v, e = .returned v ∧ Gives w H (intP n) v w' := by
 by_cases h0 : n < 0
 ·have E : Hid (intP n = .mk 1 (-1 - n).toNat [] [] ∧ (-1 - n).toNat < 18446744073709551616 ∧ -1 - n = ((-1 - n).toNat : Int)) := ⟨by rw [intP, if_pos h0], by omega, by omega⟩
  have K1 : IntKind.u64.wrap (-1 - n) = -1 - n := by rw [IntKind.wrap_u64]; omega
  have K0 : IntKind.i64.wrap (-1 - n) = -1 - n := IntWalk.i64_in _ (by omega)
  clear h1 h2
  go_enter Tryd.func36, Tryd.ntmps36
  go_wp2_with fail
  refine ret_row rfl rfl (Blk.new _ _ _) rfl rfl size_item rfl ?_
  rw [E.out.1]
  exact ⟨_, rfl, Gives.plain hH (below_box _ _) (by omega) E.out.2.1 E.out.2.2⟩
 ·have E : Hid (intP n = .mk 0 n.toNat [] [] ∧ n.toNat < 18446744073709551616 ∧ n = (n.toNat : Int)) := ⟨by rw [intP, if_neg h0], by omega, by omega⟩
  have K1 : IntKind.u64.wrap n = n := by rw [IntKind.wrap_u64]; omega
  have hn := Int.not_lt.1 h0
  clear h1 h2 h0
  go_enter Tryd.func36, Tryd.ntmps36
  go_wp2_with fail
  refine ret_row rfl rfl (Blk.new _ _ _) rfl rfl size_item rfl ?_
  rw [E.out.1]
  exact ⟨_, rfl, Gives.plain hH (below_box _ _) (by omega) E.out.2.1 E.out.2.2⟩
end Go.Proofs.YtlebpackbfcfeaaDoor
