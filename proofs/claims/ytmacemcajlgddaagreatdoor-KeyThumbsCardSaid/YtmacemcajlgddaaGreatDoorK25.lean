/- squeezed. Rows of elements of k cells each ( -/
import Derived.Test.YtmacemcajlgddaaGreatDoorK00
import Derived.Test.YtmacemcajlgddaaGreatDoorK14
import Derived.Shelf.GgSortFunc.SmallK
set_option linter.unusedVariables false
set_option linter.unusedSimpArgs false
set_option maxRecDepth 100000
namespace Go.Proofs.YtmacemcajlgddaaGreatDoor
open Go.RowKit
structure Lie (α : Type) where
 k : Nat
 pos : 0 < k
 E : Snap → α → List Value → Prop
 len : ∀ {H x c}, E H x c → c.length = k
 one : ∀ {H x c}, E H x c → ∀ u ∈ c, u.oneCell' = true
 mono : ∀ {H K x c}, H.le K → E H x c → E K x c
section
variable {α : Type} {L : Lie α}
def RowC (L : Lie α) (H : Snap) : List Value → List α → Prop
 | cs, [] => cs = []
 | cs, x :: l => ∃ c rest, cs = c ++ rest ∧ L.E H x c ∧ RowC L H rest l
theorem RowC.nil (L : Lie α) (H : Snap) : RowC L H [] [] := by rw [RowC]
theorem RowC.len {H : Snap} : ∀ {l : List α} {cs : List Value}, RowC L H cs l → cs.length = l.length * L.k
 | [], cs, h => by rw [RowC] at h; subst h; simp
 | x :: l, cs, h => by
  obtain ⟨c, rest, rfl, hx, hr⟩ := h;rw [List.length_append, L.len hx, hr.len, List.length_cons, Nat.succ_mul, Nat.add_comm]
theorem RowC.mono {H K : Snap} (hl : H.le K) : ∀ {l : List α} {cs : List Value}, RowC L H cs l → RowC L K cs l
 | [], cs, h => h
 | x :: l, cs, h => by
  obtain ⟨c, rest, e, hx, hr⟩ := h
  exact ⟨c, rest, e, L.mono hl hx, hr.mono hl⟩
theorem RowC.one {H : Snap} {x : α} {c : List Value} (h : L.E H x c) : RowC L H c [x] := ⟨c, [], by simp, h, RowC.nil L H⟩
theorem RowC.app {H : Snap} : ∀ {l m : List α} {cs ds : List Value}, RowC L H cs l → RowC L H ds m → RowC L H (cs ++ ds) (l ++ m)
 | [], m, cs, ds, h, hd => by rw [RowC] at h; subst h; exact hd
 | x :: l, m, cs, ds, h, hd => by
  obtain ⟨c, rest, rfl, hx, hr⟩ := h
  exact ⟨c, rest ++ ds, by simp, hx, hr.app hd⟩
theorem RowC.oneCell {H : Snap} : ∀ {l : List α} {cs : List Value}, RowC L H cs l → ∀ u ∈ cs, u.oneCell' = true
 | [], cs, h => by rw [RowC] at h; subst h; simp
 | x :: l, cs, h => by
  obtain ⟨c, rest, rfl, hx, hr⟩ := h
  intro u hu
  rw [List.mem_append] at hu
  rcases hu with hu | hu
  ·exact L.one hx u hu
  ·exact hr.oneCell u hu
theorem RowC.get {H : Snap} : ∀ {l : List α} {cs : List Value}, RowC L H cs l → ∀ (j : Nat) (hj : j < l.length), ∃ c, L.E H l[j] c ∧ ∀ i v, c[i]? = some v → cs[j * L.k + i]? = some v
 | [], _, _, j, hj => by simp at hj
 | x :: l, cs, h, 0, _ => by
  obtain ⟨c, rest, rfl, hx, hr⟩ := h
  refine ⟨c, hx, fun i v hi => ?_⟩
  rw [Nat.zero_mul, Nat.zero_add, List.getElem?_append_left (List.getElem?_eq_some_iff.1 hi).1]
  exact hi
 | x :: l, cs, h, j + 1, hj => by
  obtain ⟨c, rest, rfl, hx, hr⟩ := h;obtain ⟨c', hc', hi'⟩ := hr.get j (by simpa using hj)
  refine ⟨c', by simpa using hc', fun i v hi => ?_⟩
  have := hi' i v hi;rw [List.getElem?_append_right (by rw [L.len hx, Nat.succ_mul]; omega), L.len hx, show (j + 1) * L.k + i - L.k = j * L.k + i by rw [Nat.succ_mul]; omega]
  exact this
structure IsRow (L : Lie α) (H : Snap) (A : Option Addr) (c : Nat) (l : List α) : Prop where
 le : l.length ≤ c
 max : c ≤ 9223372036854775807
 row : 0 < l.length → ∃ b off cs, A = some ⟨b, off, none⟩ ∧ RowC L H cs l ∧ Cells H b off cs
theorem IsRow.at_ {H : Snap} {A : Option Addr} {c : Nat} {l : List α} (h : IsRow L H A c l) (h0 : 0 < l.length) : ∃ b off, A = some ⟨b, off, none⟩ ∧ ∀ j (hj : j < l.length), ∃ d, L.E H l[j] d ∧ ∀ i v, d[i]? = some v → H.cell? ⟨b, off + (j * L.k + i), none⟩ = some v := by
 obtain ⟨b, off, cs, e, h1, h2⟩ := h.row h0
 refine ⟨b, off, e, fun j hj => ?_⟩
 obtain ⟨d, hd, hi⟩ := h1.get j hj
 exact ⟨d, hd, fun i v hv => h2 _ _ (hi i v hv)⟩
def OwnX (L : Lie α) (t : TypeId) (w : World) (base : Nat) (v : Value) (H : Snap) (l : List α) : Prop := ∃ cs, RowC L H cs l ∧ w.ownsRow base t L.k v l.length cs
variable {t : TypeId} {w w' : World} {base : Nat} {v : Value} {H : Snap} {l : List α}
theorem OwnX.nil (L : Lie α) (t : TypeId) (w : World) (base : Nat) (H : Snap) : OwnX L t w base (.slice none 0 0) H [] := ⟨[], RowC.nil L H, World.ownsRow_nil _ _ _ _⟩
theorem OwnX.lt (h : OwnX L t w base v H l) : ∀ k, v.ownBlock = some k → base ≤ k ∧ k < w.heap.size := by obtain ⟨_, _, h⟩ := h; exact World.ownsRow.lt h
theorem OwnX.kept {row : Option Nat} (h : OwnX L t w base v H l) (hg : w.grownBy w' row) (hne : v.ownBlock = none ∨ v.ownBlock ≠ row) : OwnX L t w' base v H l := by
 obtain ⟨cs, hc, h⟩ := h; exact ⟨cs, hc, World.ownsRow.kept h hg hne⟩
theorem OwnX.below (h : OwnX L t w base v H l) (hb : Below w.heap.size w w') : OwnX L t w' base v H l := by
 refine h.kept (grown_of_below hb none) ?_
 cases hv : v.ownBlock with
 | none => exact .inl rfl
 | some g => exact .inr (by simp)
theorem OwnX.alloc (h : OwnX L t w base v H l) (o : Obj) : OwnX L t (w.alloc o) base v H l := h.below (below_box w o)
theorem OwnX.mono {K : Snap} (h : OwnX L t w base v H l) (hl : H.le K) : OwnX L t w base v K l := by obtain ⟨cs, hc, h⟩ := h; exact ⟨cs, hc.mono hl, h⟩
theorem OwnX.form (h : OwnX L t w base v H l) : ∃ A c, v = .slice A l.length c ∧ l.length ≤ c ∧ c ≤ 9223372036854775807 := by
 obtain ⟨cs, hc, h⟩ := h
 rcases h.2 with ⟨rfl, hz⟩ | ⟨g, cap, cur, rfl, _, _, hn, hm, _⟩
 ·exact ⟨none, 0, by rw [hz], by omega, by omega⟩
 ·exact ⟨_, cap, rfl, hn, by simpa [maxLen] using hm⟩
theorem OwnX.snap {A : Option Addr} {m c : Nat} (h : OwnX L t w base (.slice A m c) H l) (hw : Holds w H) (hn : ∀ g, A.map (·.block) = some g → H g = none) :
  ∃ H', H.le H' ∧ Holds w H' ∧ (∀ b o, H' b = some o → H b = some o ∨ A.map (·.block) = some b) ∧ m = l.length ∧ IsRow L H' A c l := by
 obtain ⟨cs, hcs, h⟩ := h
 rcases h.2 with ⟨hv, hz⟩ | ⟨g, cap, cur, hv, _, hg, hc, hm, hcz, ht⟩
 ·cases hv
  exact ⟨H, Snap.le.refl _, hw, fun _ _ h => .inl h, hz.symm, ⟨by omega, by omega, by omega⟩⟩
 ·cases hv
  have hg0 : H g = none := hn g rfl
  refine ⟨H.with g (.cells cur t), Snap.le_with hg0, hw.with hg, fun b o hb => ?_, rfl, hc, by simpa [maxLen] using hm, fun _ => ⟨g, 0, cs, rfl, hcs.mono (Snap.le_with hg0), fun j v hj => ?_⟩⟩
  ·unfold Snap.with at hb
   split at hb
   ·subst b; exact .inr rfl
   ·exact .inl hb
  ·rw [← ht, List.getElem?_take] at hj
   split at hj
   ·simp [Snap.cell?, Snap.with]
    simpa using hj
   ·cases hj
theorem OwnX.at_ {A : Option Addr} {m c : Nat} (h : OwnX L t w base (.slice A m c) H l) (j : Nat) (hj : j < l.length) : ∃ g, A = some ⟨g, 0, none⟩ ∧ ∃ d, L.E H l[j] d ∧ ∀ i v, d[i]? = some v → w.cell? ⟨g, j * L.k + i, none⟩ = some v := by
 obtain ⟨cs, hcs, h⟩ := h
 rcases h.2 with ⟨hv, hz⟩ | ⟨g, cap, cur, hv, _, hg, hc, hm, hcz, ht⟩
 ·omega
 ·cases hv
  obtain ⟨d, hd, hi⟩ := hcs.get j hj
  refine ⟨g, rfl, d, hd, fun i v hv => ?_⟩
  have hx := hi i v hv;rw [← ht, List.getElem?_take] at hx
  split at hx
  ·exact (cell_of_row w g _ cur t (0, 0) hg).trans (by simpa using hx)
  ·cases hx
theorem OwnX.append {ops : Array Oper} {rest : List Oper} {o : Oper} {a : Act} {Q : Exit → Act → World → Prop} (hgd : o.guard = none) (s x : Operand) (T : TypeId)
  (ho : o.op = .call { callee := .builtin .append, args := #[s, x], argTypes := #[T, T] }) (hT : Tryz.prog.underlying T = some (.slice t)) {z : Value} {bytes : Nat} (hzs : z.cells.size = L.k) (hby : bytes ≤ 128)
  (hinfo : (Tryz.prog.info? t).map (fun i => (i.zero, i.size, i.bytes)) = some (some z, L.k, bytes))
  (hs : a.eval s = v) (hown : OwnX L t w base v H l) (A : Option Addr) (m c : Nat) (cs : List Value) (news : List α) (hx : a.eval x = .slice A m c) (hm : m = news.length)
  (hn : RowC L H cs news) (hr : Src w A cs) (hlen : l.length + news.length ≤ 1099511627776) (hbase : base ≤ w.heap.size)
  (h : ∀ v' w', OwnX L t w' base v' H (l ++ news) → w.grownBy w' v.ownBlock → At0 w v.ownBlock v'.ownBlock → wpList Tryz.prog ops Q rest (a.put o.dst v') w') :
  wpList Tryz.prog ops Q (o :: rest) a w := by
 subst hm;obtain ⟨xs, hxs, hown⟩ := hown;obtain ⟨i0, hi0, hz0, hz1, hz2⟩ := info_parts hinfo
 refine wpList_plain hgd fun K hK => wp_append_src s x _ ho base t i0 _ L.k bytes hT hi0 hz0 hz1 hz2 hzs L.pos v l.length xs hs hown A news.length c cs hx hn.len hr hn.oneCell
  (by simp only [maxLen]; omega) (by have := Nat.mul_le_mul hlen hby; omega) hbase fun v' w' h2 h3 h4 => hK _ _ (h v' w' ?_ h3 ?_)
 ·exact ⟨xs ++ cs, hxs.app hn, by simpa using h2⟩
 ·rcases h4 with h4 | h4
  ·exact .inl h4
  ·exact .inr ⟨_, h4, Nat.le_refl _⟩
end
end Go.Proofs.YtmacemcajlgddaaGreatDoor
namespace Go.Proofs.YtmacemcajlgddaaGreatDoor
open Go.RowKit Go.Shelf
def sortRen : Go.Shelf.Ren := ⟨fun | 6 => 51 | 10 => 80 | 11 => 81 | 12 => 82 | 13 => 83 | 14 => 84 | 24 => 116 | 25 => 117 | 26 => 118 | 27 => 119 | 28 => 120 | 29 => 121 | 30 => 122 | 31 => 123 | 32 => 124 | 33 => 125 | 34 => 131 | 35 => 132 | 36 => 133 | 37 => 134 | 38 => 135 | 39 => 139 | n => n,
 fun | 0 => 0 | 3 => 3 | 4 => 4 | 5 => 5 | 9 => 9 | 12 => 12 | 17 => 17 | 20 => 20 | 26 => 87 | 32 => 111 | 33 => 112 | 35 => 114 | 37 => 116 | 41 => 50 | 44 => 122 | 49 => 62 | 51 => 49 | 53 => 146 | 54 => 147 | 58 => 151 | 60 => 163 | 64 => 167 | 66 => 170 | 67 => 171 | 75 => 179 | 76 => 180 | 77 => 181 | 78 => 182 | 79 => 183 | 80 => 184 | 82 => 186 | n => n, fun n => n⟩
theorem sortLays : LaysGg.n6 Tryz.prog sortRen where
 mixed := by kernel_rfl
 f6 := Tryz.func51.trans (congrArg some (by kernel_rfl))
 f10 := Tryz.func80.trans (congrArg some (by kernel_rfl))
 f11 := Tryz.func81.trans (congrArg some (by kernel_rfl))
 f12 := Tryz.func82.trans (congrArg some (by kernel_rfl))
 f13 := Tryz.func83.trans (congrArg some (by kernel_rfl))
 f14 := Tryz.func84.trans (congrArg some (by kernel_rfl))
 f24 := Tryz.func116.trans (congrArg some (by kernel_rfl))
 f25 := Tryz.func117.trans (congrArg some (by kernel_rfl))
 f26 := Tryz.func118.trans (congrArg some (by kernel_rfl))
 f27 := Tryz.func119.trans (congrArg some (by kernel_rfl))
 f28 := Tryz.func120.trans (congrArg some (by kernel_rfl))
 f29 := Tryz.func121.trans (congrArg some (by kernel_rfl))
 f30 := Tryz.func122.trans (congrArg some (by kernel_rfl))
 f31 := Tryz.func123.trans (congrArg some (by kernel_rfl))
 f32 := Tryz.func124.trans (congrArg some (by kernel_rfl))
 f33 := Tryz.func125.trans (congrArg some (by kernel_rfl))
 f34 := Tryz.func131.trans (congrArg some (by kernel_rfl))
 f35 := Tryz.func132.trans (congrArg some (by kernel_rfl))
 f36 := Tryz.func133.trans (congrArg some (by kernel_rfl))
 f37 := Tryz.func134.trans (congrArg some (by kernel_rfl))
 f38 := Tryz.func135.trans (congrArg some (by kernel_rfl))
 f39 := Tryz.func139.trans (congrArg some (by kernel_rfl))
 t0 := Tryz.underlying0
 a0 := Tryz.isAgg0
 z0 := Tryz.sizeOf0
 v0 := Tryz.zeroValue0
 i0 := by kernel_rfl
 t3 := Tryz.underlying3
 a3 := Tryz.isAgg3
 z3 := Tryz.sizeOf3
 v3 := Tryz.zeroValue3
 i3 := by kernel_rfl
 t4 := Tryz.underlying4
 a4 := Tryz.isAgg4
 z4 := Tryz.sizeOf4
 v4 := Tryz.zeroValue4
 i4 := by kernel_rfl
 t5 := Tryz.underlying5
 a5 := Tryz.isAgg5
 z5 := Tryz.sizeOf5
 v5 := Tryz.zeroValue5
 i5 := by kernel_rfl
 t9 := Tryz.underlying9
 a9 := Tryz.isAgg9
 z9 := Tryz.sizeOf9
 v9 := Tryz.zeroValue9
 i9 := by kernel_rfl
 t12 := Tryz.underlying12
 a12 := Tryz.isAgg12
 z12 := Tryz.sizeOf12
 v12 := Tryz.zeroValue12
 i12 := by kernel_rfl
 t17 := Tryz.underlying17
 a17 := Tryz.isAgg17
 z17 := Tryz.sizeOf17
 v17 := Tryz.zeroValue17
 i17 := by kernel_rfl
 t20 := Tryz.underlying20
 a20 := Tryz.isAgg20
 z20 := Tryz.sizeOf20
 v20 := Tryz.zeroValue20
 i20 := by kernel_rfl
 t26 := Tryz.underlying87
 a26 := Tryz.isAgg87
 z26 := Tryz.sizeOf87
 v26 := Tryz.zeroValue87
 i26 := by kernel_rfl
 t32 := Tryz.underlying111
 a32 := Tryz.isAgg111
 z32 := Tryz.sizeOf111
 v32 := Tryz.zeroValue111
 i32 := by kernel_rfl
 t33 := Tryz.underlying112
 a33 := Tryz.isAgg112
 z33 := Tryz.sizeOf112
 v33 := Tryz.zeroValue112
 i33 := by kernel_rfl
 t35 := Tryz.underlying114
 a35 := Tryz.isAgg114
 z35 := Tryz.sizeOf114
 v35 := Tryz.zeroValue114
 i35 := by kernel_rfl
 t37 := Tryz.underlying116
 a37 := Tryz.isAgg116
 z37 := Tryz.sizeOf116
 v37 := Tryz.zeroValue116
 i37 := by kernel_rfl
 t41 := Tryz.underlying50
 a41 := Tryz.isAgg50
 z41 := Tryz.sizeOf50
 v41 := Tryz.zeroValue50
 i41 := by kernel_rfl
 t44 := Tryz.underlying122
 a44 := Tryz.isAgg122
 z44 := Tryz.sizeOf122
 v44 := Tryz.zeroValue122
 i44 := by kernel_rfl
 t49 := Tryz.underlying62
 a49 := Tryz.isAgg62
 z49 := Tryz.sizeOf62
 v49 := Tryz.zeroValue62
 i49 := by kernel_rfl
 t51 := Tryz.underlying49
 a51 := Tryz.isAgg49
 z51 := Tryz.sizeOf49
 v51 := Tryz.zeroValue49
 i51 := by kernel_rfl
 t53 := Tryz.underlying146
 a53 := Tryz.isAgg146
 z53 := Tryz.sizeOf146
 v53 := Tryz.zeroValue146
 i53 := by kernel_rfl
 t54 := Tryz.underlying147
 a54 := Tryz.isAgg147
 z54 := Tryz.sizeOf147
 v54 := Tryz.zeroValue147
 i54 := by kernel_rfl
 t58 := Tryz.underlying151
 a58 := Tryz.isAgg151
 z58 := Tryz.sizeOf151
 v58 := Tryz.zeroValue151
 i58 := by kernel_rfl
 t60 := Tryz.underlying163
 a60 := Tryz.isAgg163
 z60 := Tryz.sizeOf163
 v60 := Tryz.zeroValue163
 i60 := by kernel_rfl
 t64 := Tryz.underlying167
 a64 := Tryz.isAgg167
 z64 := Tryz.sizeOf167
 v64 := Tryz.zeroValue167
 i64 := by kernel_rfl
 t66 := Tryz.underlying170
 a66 := Tryz.isAgg170
 z66 := Tryz.sizeOf170
 v66 := Tryz.zeroValue170
 i66 := by kernel_rfl
 t67 := Tryz.underlying171
 a67 := Tryz.isAgg171
 z67 := Tryz.sizeOf171
 v67 := Tryz.zeroValue171
 i67 := by kernel_rfl
 t75 := Tryz.underlying179
 a75 := Tryz.isAgg179
 z75 := Tryz.sizeOf179
 v75 := Tryz.zeroValue179
 i75 := by kernel_rfl
 t76 := Tryz.underlying180
 a76 := Tryz.isAgg180
 z76 := Tryz.sizeOf180
 v76 := Tryz.zeroValue180
 i76 := by kernel_rfl
 t77 := Tryz.underlying181
 a77 := Tryz.isAgg181
 z77 := Tryz.sizeOf181
 v77 := Tryz.zeroValue181
 i77 := by kernel_rfl
 t78 := Tryz.underlying182
 a78 := Tryz.isAgg182
 z78 := Tryz.sizeOf182
 v78 := Tryz.zeroValue182
 i78 := by kernel_rfl
 t79 := Tryz.underlying183
 a79 := Tryz.isAgg183
 z79 := Tryz.sizeOf183
 v79 := Tryz.zeroValue183
 i79 := by kernel_rfl
 t80 := Tryz.underlying184
 a80 := Tryz.isAgg184
 z80 := Tryz.sizeOf184
 v80 := Tryz.zeroValue184
 i80 := by kernel_rfl
 t82 := Tryz.underlying186
 a82 := Tryz.isAgg186
 z82 := Tryz.sizeOf186
 v82 := Tryz.zeroValue186
 i82 := by kernel_rfl
theorem OwnX.kl {α : Type} {L : Lie α} {t : TypeId} {w w' : World} {base N : Nat} {v : Value} {H : Snap} {l : List α} (h : OwnX L t w base v H l) (hg : w.grownBy w' (some N)) (hl : ∀ q, v.ownBlock = some q → q < N) : OwnX L t w' base v H l := h.kept hg (by cases hv : v.ownBlock with | none => exact .inl rfl | some q => exact .inr (fun e => by injection e with e; exact Nat.lt_irrefl _ (e ▸ hl q hv)))
end Go.Proofs.YtmacemcajlgddaaGreatDoor
