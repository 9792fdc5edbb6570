/- Walks: the reference's Build; of pairs that ascend it gives the map of just these pairs. The library's sort.Slice, laid at this program. -/
import Derived.Test.YtebcnkelbicbnaaGreatDoorM19
import Derived.Test.YtebcnkelbicbnaaGreatDoorM02
import Derived.Test.YtebcnkelbicbnaaGreatDoorM23
import Derived.Shelf.GgSortFunc.SmallK
set_option linter.unusedVariables false
set_option linter.unusedSimpArgs false
namespace Go.Proofs.YtebcnkelbicbnaaGreatDoor
open Go.RowKit

theorem asc_drop (l : List Itm) (h : ascP l = true) : ∀ i : Nat, ascP (l.drop (2 * i)) = true
  | 0 => by simpa using h
  | i + 1 => by
    have ih := asc_drop l h i
    rw [show 2 * (i + 1) = 2 * i + 2 by omega, ← List.drop_drop]
    generalize l.drop (2 * i) = m at ih
    match m, ih with
    | [], _ => rfl
    | [_], _ => rfl
    | _ :: _ :: m, ih => exact ascP_tail ih
theorem asc_at {l : List Itm} (h : ascP l = true) {m : Nat} (he : m % 2 = 0) (hm : m + 2 < l.length) : Lib.compareBytes (encB (l[m]'(by omega))) (encB l[m + 2]) < 0 := by
  obtain ⟨i, rfl⟩ : ∃ i, m = 2 * i := ⟨m / 2, by omega⟩
  have h1 := asc_drop l h i
  have h2 := ascP_drop l (2 * i + 2) (by omega) hm
  simp only [Nat.add_sub_cancel] at h2
  rw [h1] at h2
  have h3 := (Bool.and_eq_true _ _).mp h2.symm
  have h4 := of_decide_eq_true h3.1
  simpa using h4
end Go.Proofs.YtebcnkelbicbnaaGreatDoor
namespace Go.Proofs.YtebcnkelbicbnaaGreatDoor
open Go.RowKit Go.Shelf

def sortRen : Go.Shelf.Ren := ⟨fun | 6 => 63 | 10 => 81 | 11 => 82 | 12 => 83 | 13 => 84 | 14 => 85 | 24 => 109 | 25 => 110 | 26 => 111 | 27 => 112 | 28 => 113 | 29 => 114 | 30 => 115 | 31 => 116 | 32 => 117 | 33 => 118 | 34 => 122 | 35 => 123 | 36 => 124 | 37 => 125 | 38 => 126 | 39 => 130 | n => n,
  fun | 0 => 0 | 3 => 3 | 4 => 4 | 5 => 5 | 9 => 9 | 12 => 12 | 17 => 17 | 20 => 20 | 26 => 96 | 32 => 114 | 33 => 115 | 35 => 117 | 37 => 119 | 41 => 79 | 44 => 125 | 49 => 136 | 51 => 22 | 53 => 154 | 54 => 155 | 58 => 72 | 60 => 162 | 64 => 68 | 66 => 169 | 67 => 170 | 75 => 183 | 76 => 184 | 77 => 185 | 78 => 186 | 79 => 187 | 80 => 188 | 82 => 190 | n => n, fun n => n⟩
theorem sortLays : LaysGg.n6 Tryz.prog sortRen where
  mixed := by kernel_rfl
  f6 := Tryz.func63.trans (congrArg some (by kernel_rfl))
  f10 := Tryz.func81.trans (congrArg some (by kernel_rfl))
  f11 := Tryz.func82.trans (congrArg some (by kernel_rfl))
  f12 := Tryz.func83.trans (congrArg some (by kernel_rfl))
  f13 := Tryz.func84.trans (congrArg some (by kernel_rfl))
  f14 := Tryz.func85.trans (congrArg some (by kernel_rfl))
  f24 := Tryz.func109.trans (congrArg some (by kernel_rfl))
  f25 := Tryz.func110.trans (congrArg some (by kernel_rfl))
  f26 := Tryz.func111.trans (congrArg some (by kernel_rfl))
  f27 := Tryz.func112.trans (congrArg some (by kernel_rfl))
  f28 := Tryz.func113.trans (congrArg some (by kernel_rfl))
  f29 := Tryz.func114.trans (congrArg some (by kernel_rfl))
  f30 := Tryz.func115.trans (congrArg some (by kernel_rfl))
  f31 := Tryz.func116.trans (congrArg some (by kernel_rfl))
  f32 := Tryz.func117.trans (congrArg some (by kernel_rfl))
  f33 := Tryz.func118.trans (congrArg some (by kernel_rfl))
  f34 := Tryz.func122.trans (congrArg some (by kernel_rfl))
  f35 := Tryz.func123.trans (congrArg some (by kernel_rfl))
  f36 := Tryz.func124.trans (congrArg some (by kernel_rfl))
  f37 := Tryz.func125.trans (congrArg some (by kernel_rfl))
  f38 := Tryz.func126.trans (congrArg some (by kernel_rfl))
  f39 := Tryz.func130.trans (congrArg some (by kernel_rfl))
  t0 := Tryz.underlying0
  a0 := Tryz.isAgg0
  z0 := Tryz.sizeOf0
  v0 := Tryz.zeroValue0
  i0 := by kernel_rfl
  t3 := Tryz.underlying3
  a3 := Tryz.isAgg3
  z3 := Tryz.sizeOf3
  v3 := Tryz.zeroValue3
  i3 := by kernel_rfl
  t4 := Tryz.underlying4
  a4 := Tryz.isAgg4
  z4 := Tryz.sizeOf4
  v4 := Tryz.zeroValue4
  i4 := by kernel_rfl
  t5 := Tryz.underlying5
  a5 := Tryz.isAgg5
  z5 := Tryz.sizeOf5
  v5 := Tryz.zeroValue5
  i5 := by kernel_rfl
  t9 := Tryz.underlying9
  a9 := Tryz.isAgg9
  z9 := Tryz.sizeOf9
  v9 := Tryz.zeroValue9
  i9 := by kernel_rfl
  t12 := Tryz.underlying12
  a12 := Tryz.isAgg12
  z12 := Tryz.sizeOf12
  v12 := Tryz.zeroValue12
  i12 := by kernel_rfl
  t17 := Tryz.underlying17
  a17 := Tryz.isAgg17
  z17 := Tryz.sizeOf17
  v17 := Tryz.zeroValue17
  i17 := by kernel_rfl
  t20 := Tryz.underlying20
  a20 := Tryz.isAgg20
  z20 := Tryz.sizeOf20
  v20 := Tryz.zeroValue20
  i20 := by kernel_rfl
  t26 := Tryz.underlying96
  a26 := Tryz.isAgg96
  z26 := Tryz.sizeOf96
  v26 := Tryz.zeroValue96
  i26 := by kernel_rfl
  t32 := Tryz.underlying114
  a32 := Tryz.isAgg114
  z32 := Tryz.sizeOf114
  v32 := Tryz.zeroValue114
  i32 := by kernel_rfl
  t33 := Tryz.underlying115
  a33 := Tryz.isAgg115
  z33 := Tryz.sizeOf115
  v33 := Tryz.zeroValue115
  i33 := by kernel_rfl
  t35 := Tryz.underlying117
  a35 := Tryz.isAgg117
  z35 := Tryz.sizeOf117
  v35 := Tryz.zeroValue117
  i35 := by kernel_rfl
  t37 := Tryz.underlying119
  a37 := Tryz.isAgg119
  z37 := Tryz.sizeOf119
  v37 := Tryz.zeroValue119
  i37 := by kernel_rfl
  t41 := Tryz.underlying79
  a41 := Tryz.isAgg79
  z41 := Tryz.sizeOf79
  v41 := Tryz.zeroValue79
  i41 := by kernel_rfl
  t44 := Tryz.underlying125
  a44 := Tryz.isAgg125
  z44 := Tryz.sizeOf125
  v44 := Tryz.zeroValue125
  i44 := by kernel_rfl
  t49 := Tryz.underlying136
  a49 := Tryz.isAgg136
  z49 := Tryz.sizeOf136
  v49 := Tryz.zeroValue136
  i49 := by kernel_rfl
  t51 := Tryz.underlying22
  a51 := Tryz.isAgg22
  z51 := Tryz.sizeOf22
  v51 := Tryz.zeroValue22
  i51 := by kernel_rfl
  t53 := Tryz.underlying154
  a53 := Tryz.isAgg154
  z53 := Tryz.sizeOf154
  v53 := Tryz.zeroValue154
  i53 := by kernel_rfl
  t54 := Tryz.underlying155
  a54 := Tryz.isAgg155
  z54 := Tryz.sizeOf155
  v54 := Tryz.zeroValue155
  i54 := by kernel_rfl
  t58 := Tryz.underlying72
  a58 := Tryz.isAgg72
  z58 := Tryz.sizeOf72
  v58 := Tryz.zeroValue72
  i58 := by kernel_rfl
  t60 := Tryz.underlying162
  a60 := Tryz.isAgg162
  z60 := Tryz.sizeOf162
  v60 := Tryz.zeroValue162
  i60 := by kernel_rfl
  t64 := Tryz.underlying68
  a64 := Tryz.isAgg68
  z64 := Tryz.sizeOf68
  v64 := Tryz.zeroValue68
  i64 := by kernel_rfl
  t66 := Tryz.underlying169
  a66 := Tryz.isAgg169
  z66 := Tryz.sizeOf169
  v66 := Tryz.zeroValue169
  i66 := by kernel_rfl
  t67 := Tryz.underlying170
  a67 := Tryz.isAgg170
  z67 := Tryz.sizeOf170
  v67 := Tryz.zeroValue170
  i67 := by kernel_rfl
  t75 := Tryz.underlying183
  a75 := Tryz.isAgg183
  z75 := Tryz.sizeOf183
  v75 := Tryz.zeroValue183
  i75 := by kernel_rfl
  t76 := Tryz.underlying184
  a76 := Tryz.isAgg184
  z76 := Tryz.sizeOf184
  v76 := Tryz.zeroValue184
  i76 := by kernel_rfl
  t77 := Tryz.underlying185
  a77 := Tryz.isAgg185
  z77 := Tryz.sizeOf185
  v77 := Tryz.zeroValue185
  i77 := by kernel_rfl
  t78 := Tryz.underlying186
  a78 := Tryz.isAgg186
  z78 := Tryz.sizeOf186
  v78 := Tryz.zeroValue186
  i78 := by kernel_rfl
  t79 := Tryz.underlying187
  a79 := Tryz.isAgg187
  z79 := Tryz.sizeOf187
  v79 := Tryz.zeroValue187
  i79 := by kernel_rfl
  t80 := Tryz.underlying188
  a80 := Tryz.isAgg188
  z80 := Tryz.sizeOf188
  v80 := Tryz.zeroValue188
  i80 := by kernel_rfl
  t82 := Tryz.underlying190
  a82 := Tryz.isAgg190
  z82 := Tryz.sizeOf190
  v82 := Tryz.zeroValue190
  i82 := by kernel_rfl
end Go.Proofs.YtebcnkelbicbnaaGreatDoor
