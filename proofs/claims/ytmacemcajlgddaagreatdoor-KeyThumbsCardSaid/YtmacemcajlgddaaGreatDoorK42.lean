/- squeezed. Floats of which only the kind is w -/
import Derived.Test.YtmacemcajlgddaaGreatDoorK41
import Derived.Laws.FloatArith
set_option linter.unusedVariables false
set_option linter.unusedSimpArgs false
set_option maxRecDepth 100000
namespace Go.Proofs.YtmacemcajlgddaaGreatDoor
open Go.RowKit
theorem arith_any {P : Program} (w : World) (op : BinOp) (hop : op = .add ∨ op = .sub ∨ op = .mul ∨ op = .quo) (t : TypeId) (x y : Nat) :
  ∃ r w', (binOp op t (.float .f64 x) (.float .f64 y)).run P w = .ok (.float .f64 r) w' ∧ (w' = w ∨ w' = w.drew) := by
 cases h : floatBits op .f64 x y with
 | some r => exact ⟨r, w, run_float_arith w op t .f64 x y r h, .inl rfl⟩
 | none =>
  have hb : binOp op t (.float .f64 x) (.float .f64 y) = Op.floatArith op .f64 x y := by rcases hop with rfl | rfl | rfl | rfl <;> simp [binOp]
  have hf : (Op.floatArith op .f64 x y) = (do pure (.float .f64 (← choose (.nanBits .f64 x y)))) := by
   unfold floatBits at h
   rcases hop with rfl | rfl | rfl | rfl <;> simp only at h <;> simp [Op.floatArith, h]
  rw [hb, hf]
  simp only [Sem.run_bind, run_choose_drew]
  split
  ·exact ⟨_, _, rfl, .inl rfl⟩
  ·exact ⟨_, _, rfl, .inr rfl⟩
theorem conv_any {P : Program} (w : World) (src dst : TypeId) (b : Nat) (hs : (P.underlying src).isSome = true) (hd : P.underlying dst = some (.int .u64)) :
  ∃ n : Nat, n < 18446744073709551616 ∧ ∃ w', (convert src dst (.float .f64 b)).run P w = .ok (.int .u64 (n : Int)) w' ∧ (w' = w ∨ w' = w.drew) := by
 have bnd : ∀ z : Int, ∃ n : Nat, n < 18446744073709551616 ∧ IntKind.u64.wrap z = (n : Int) := fun z => by
  rw [IntKind.wrap_u64]
  exact ⟨(z % 18446744073709551616).toNat, by omega, by omega⟩
 obtain ⟨u, hs'⟩ := Option.isSome_iff_exists.1 hs
 have hc : (convert src dst (.float .f64 b)).run P w = (Conv.floatToInt .f64 b .u64).run P w := by
  cases u <;> simp [convert, run_underlying hs', run_underlying hd]
 rw [hc]
 unfold Conv.floatToInt
 split
 ·rename_i m he
  split
  ·rename_i hb
   have h1 : (0 : Int) ≤ m := hb.1;have h2 : m ≤ 18446744073709551615 := hb.2
   exact ⟨m.toNat, by omega, w, by rw [show ((m.toNat : Nat) : Int) = m by omega]; rfl, .inl rfl⟩
  ·simp only [Sem.run_bind, Sem.run_pure, Result.andThen_ok, run_choose_drew]
   split
   ·obtain ⟨n, hn, e⟩ := bnd ((0 : Nat) : Int)
    exact ⟨n, hn, _, by rw [← e]; rfl, .inl rfl⟩
   ·obtain ⟨n, hn, e⟩ := bnd ((Question.cut (.floatToInt .f64 b .u64) (w.tape w.drawn (.floatToInt .f64 b .u64)) : Nat) : Int)
    exact ⟨n, hn, _, by rw [← e]; rfl, .inr rfl⟩
 ·simp only [Sem.run_bind, Sem.run_pure, Result.andThen_ok, run_choose_drew]
  split
  ·obtain ⟨n, hn, e⟩ := bnd ((0 : Nat) : Int)
   exact ⟨n, hn, _, by rw [← e]; rfl, .inl rfl⟩
  ·obtain ⟨n, hn, e⟩ := bnd ((Question.cut (.floatToInt .f64 b .u64) (w.tape w.drawn (.floatToInt .f64 b .u64)) : Nat) : Int)
   exact ⟨n, hn, _, by rw [← e]; rfl, .inr rfl⟩
theorem wpList_fop {P : Program} {w : World} {ops : Array Oper} {rest : List Oper} {o : Oper} {a : Act} {Q : Exit → Act → World → Prop} (hgd : o.guard = none) (op : BinOp) (t t2 : TypeId) (x y : Operand) (ho : o.op = .binOp op t x y t2)
  (hop : op = .add ∨ op = .sub ∨ op = .mul ∨ op = .quo) (fx fy : Nat) (hx : a.eval x = .float .f64 fx) (hy : a.eval y = .float .f64 fy)
  (h : ∀ r w', w' = w ∨ w' = w.drew → wpList P ops Q rest (a.put o.dst (.float .f64 r)) w') : wpList P ops Q (o :: rest) a w := by
 obtain ⟨r, w', hr, hw⟩ := arith_any (P := P) w op hop t fx fy
 refine wpList_plain hgd fun K hK => ?_
 unfold Oper.wp execOp
 have hg : (eqGuard op t x y (.float .f64 fx) (.float .f64 fy)).run P w = .ok () w := by rcases hop with rfl | rfl | rfl | rfl <;> simp [eqGuard]
 simp only [ho, hx, hy, Sem.run_bind, hg, hr, Result.andThen_ok, Sem.run_pure]
 exact hK _ _ (h r w' hw)
theorem wpList_fconv {P : Program} {w : World} {ops : Array Oper} {rest : List Oper} {o : Oper} {a : Act} {Q : Exit → Act → World → Prop} (hgd : o.guard = none) (src dst : TypeId) (x : Operand) (ho : o.op = .convert src dst x)
  (hs : (P.underlying src).isSome = true) (hd : P.underlying dst = some (.int .u64)) (fx : Nat) (hx : a.eval x = .float .f64 fx)
  (h : ∀ (n : Nat) w', n < 18446744073709551616 → w' = w ∨ w' = w.drew → wpList P ops Q rest (a.put o.dst (.int .u64 (n : Int))) w') : wpList P ops Q (o :: rest) a w := by
 obtain ⟨n, hn, w', hr, hw⟩ := conv_any (P := P) w src dst fx hs hd
 refine wpList_plain hgd fun K hK => ?_
 unfold Oper.wp execOp
 simp only [ho, hx, Sem.run_bind, hr, Result.andThen_ok, Sem.run_pure]
 exact hK _ _ (h n w' hn hw)
end Go.Proofs.YtmacemcajlgddaaGreatDoor
