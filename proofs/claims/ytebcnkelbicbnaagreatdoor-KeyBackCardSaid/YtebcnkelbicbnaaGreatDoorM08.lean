/- Walks: cbor.add. Walks: cbor.plain. -/
import Derived.Test.YtebcnkelbicbnaaGreatDoorM06
import Derived.Test.YtebcnkelbicbnaaGreatDoorM07
import Derived.Test.YtebcnkelbicbnaaGreatDoorM01
import Derived.Test.YtebcnkelbicbnaaGreatDoorM02
import Derived.Test.YtebcnkelbicbnaaGreatDoorM05
import Derived.Shelf.Unicode.DecodeSlow
set_option linter.unusedVariables false
set_option linter.unusedSimpArgs false
namespace Go.Proofs.YtebcnkelbicbnaaGreatDoor
open Go.RowKit

theorem cbor_float (n : Int) (w : World) (h0 : 0 ≤ n) (h1 : n < 18446744073709551616) :
    Calls Tryz.prog 76 #[.int .u64 n] w fun e w' => ∃ r, e = .returned r ∧ Fresh w (floatB n.toNat) r w' := by
  obtain ⟨m, rfl⟩ := Int.eq_ofNat_of_zero_le h0
  rw [Int.toNat_natCast]
  exact cbor_float_nat m (by omega) w

/-- In the range of a uint64. -/
def U64 (n : Int) : Prop := 0 ≤ n ∧ n < 18446744073709551616

/-- What a function that appends to its argument does. -/
def Adds (w : World) (base : Nat) (v : Value) (l : List UInt8) (e : Ending) (w' : World) : Prop :=
  ∃ r, e = .returned r ∧ OwnB w' base r l ∧ w.grownBy w' v.ownBlock ∧ At0 w v.ownBlock r.ownBlock

def AddSaid (x : Itm) : Prop := ∀ (H : Snap) (k n : Int) (ba : Option Addr) (bl bc : Nat) (ia : Option Addr) (il ic : Nat) (w : World) (base : Nat) (v : Value) (l : List UInt8),
  Kinds x → ItemA H k n ba bl bc ia il ic x → Holds w H → OwnB w base v l → base ≤ w.heap.size → (∀ g, v.ownBlock = some g → H g = none) → l.length + (encB x).length ≤ 1099511627776 →
  Calls Tryz.prog 59 #[v, .agg #[.int .i64 k, .int .u64 n, .slice ba bl bc, .slice ia il ic]] w (Adds w base v (l ++ encB x))

set_option maxRecDepth 100000 in
set_option maxHeartbeats 800000 in
theorem add_float (x : Itm) (h8 : x.kind = 8) : AddSaid x := by
  intro H k n ba bl bc ia il ic w base v l hk hx hH hown hbase hv hlen
  obtain ⟨rfl, rfl, rfl, rfl, hx⟩ := hx
  have hbd := hx.bounds
  have E : Hid (encB x = floatB x.n) := by rw [Hid, encB_eq, if_pos h8]
  rw [E.out] at hlen
  have HL := Lib.hid hlen
  have HB := Lib.hid hbd
  have HV := Lib.hid hv
  clear hlen hbd hv
  go_enter Tryz.func59, Tryz.ntmps59
  go_wp2_with (first
    | (go_at_call 76; refine (cbor_float _ _ (by omega) (by have := HB.out; omega)).mono ?_; rintro e w1 ⟨r, rfl, hf⟩; obtain ⟨A, c, rfl, _, _, hsrc⟩ := hf.own.form)
    | (at_builtin; refine wpList_app_bytes rfl (.tmp 11) (.tmp 14) rfl base v l rfl ((hown.alloc _).below hf.2) A _ c (floatB x.n) rfl (by simp) (by simpa using hsrc) HL.out (by have := hf.2.size; simp at this; omega) ?_; intro v' w2 hown' hg hat))
  go_ret
  refine ⟨v', rfl, by rw [E.out]; exact hown', ?_, ?_⟩
  · exact grown_step (grown_of_below ((below_box w _).trans (hf.2.mono (by simp))) _) hg (.inl rfl)
  · exact At0.step (.inl rfl) (by have := hf.2.size; simp at this; omega) hat

set_option maxRecDepth 100000 in
set_option maxHeartbeats 800000 in
theorem add_simple (x : Itm) (h7 : x.kind = 7) (h24 : 24 ≤ x.n) : AddSaid x := by
  intro H k n ba bl bc ia il ic w base v l hk hx hH hown hbase hv hlen
  obtain ⟨rfl, rfl, rfl, rfl, hx⟩ := hx
  have hbd := hx.bounds
  have E : Hid (encB x = [u8 248, u8 x.n]) := by rw [Hid, encB_eq, if_neg (by omega), if_pos ⟨h7, h24⟩]
  rw [E.out] at hlen
  have HL := Lib.hid hlen
  have HB := Lib.hid hbd
  have HV := Lib.hid hv
  have h24' : (24 : Int) ≤ (x.n : Int) := by omega
  clear hlen hbd hv h24
  go_enter Tryz.func59, Tryz.ntmps59
  go_wp2_with (at_builtin; refine wpList_app_bytes rfl (.tmp 25) (.tmp 29) rfl base v l rfl ((hown.alloc _).alloc _) _ 2 2 [u8 248, u8 x.n] rfl rfl ?hs HL.out (by simp; omega) ?_)
  case hs => exact Src.new _ _ _ _ (by simp) _ (by simp [u8_toNat])
  intro v' w2 hown' hg hat
  go_wp2
  go_ret
  refine ⟨v', rfl, by rw [E.out]; exact hown', ?_, ?_⟩
  · exact grown_step (grown_of_below ((below_box w _).alloc (by simp) _) _) hg (.inl rfl)
  · exact At0.step (.inl rfl) (by simp; omega) hat


theorem cell_box {w : World} {g : Nat} {cs : Array Value} {e : TypeId} (h : w.heap[g]? = some (.cells cs e (0, 0))) (i : Nat) : w.cell? ⟨g, i, none⟩ = cs[i]? := cell_of_row w g i cs e (0, 0) h
theorem more_box {w w1 w2 w3 : World} {base : Nat} {v : Value} {l : List UInt8} {cs : Array Value} {e : TypeId} (hown : OwnB w base v l)
    (h1 : Below (w.alloc (.cells cs e)).heap.size (w.alloc (.cells cs e)) w1) (h2 : Below w1.heap.size w1 w2) (h3 : w2.grownBy w3 v.ownBlock) :
    w3.heap[w.heap.size]? = some (.cells cs e (0, 0)) ∧ w.heap.size + 1 ≤ w3.heap.size := by
  have s1 := h1.size
  have s2 := h2.size
  have s3 := h3.size
  simp at s1
  refine ⟨?_, by omega⟩
  rw [h3.block _ (by omega) (fun h => by have := (hown.lt _ h.symm).2; omega), h2.block _ (by omega), h1.block _ (by simp)]
  exact heap_alloc_new w _

set_option maxRecDepth 100000 in
set_option maxHeartbeats 1600000 in
theorem add_more (x : Itm) (h8 : ¬ x.kind = 8) (h7 : ¬ (x.kind = 7 ∧ 24 ≤ x.n)) (ih : ∀ y : Itm, cnt y < cnt x → AddSaid y) : AddSaid x := by
  intro H k n ba bl bc ia il ic w base v l hk hx hH hown hbase hv hlen
  obtain ⟨rfl, rfl, rfl, rfl, hx⟩ := hx
  have hbd := hx.bounds
  have E : Hid (encB x = headB x.kind.toNat (numP x) ++ x.bytes ++ encL x.items) := by rw [Hid, encB_eq, if_neg h8, if_neg h7]
  rw [E.out] at hlen
  have hkk := hk.kind
  have hx8 : x.kind < 8 := by omega
  have b8 : (x.kind == 8) = false := by simp [h8]
  have hN0 : (numP x : Int) < 18446744073709551616 := by
    unfold numP
    repeat' split
    all_goals omega
  have HN : U64 (numP x) := ⟨by omega, hN0⟩
  clear hN0
  have hn24 : x.kind = 7 → (x.n : Int) < 24 := fun h => by have : ¬ 24 ≤ x.n := fun h' => h7 ⟨h, h'⟩; omega
  have HL := Lib.hid hlen
  have HB := Lib.hid hbd
  have HV := Lib.hid hv
  clear hlen hbd hv h8 h7
  have hkb : ((x.kind == 7) = true ∧ (x.n : Int) < 24) ∨ (x.kind == 7) = false := by
    by_cases hk7 : x.kind = 7
    · exact .inl ⟨by simp [hk7], hn24 hk7⟩
    · exact .inr (by simp [hk7])
  clear hn24
  have G : Hid (w.grownBy w none) := grown_refl w none
  rcases hkb with ⟨b7, hn⟩ | b7
  all_goals
    go_enter Tryz.func59, Tryz.ntmps59
    go_wp2_with fail
    refine (cbor_major hx.arg _ (by omega) (by omega)).mono ?_
    rintro e w1 ⟨rfl, hm⟩
    go_wp2_with fail
    refine (cbor_head _ _ _ (by omega) (by omega) (by omega) HN.2).mono ?_
    rintro e w2 ⟨r, rfl, hf⟩
    obtain ⟨A, c, rfl, _, _, hsrc⟩ := hf.own.form
    have hs1 : w.heap.size + 1 ≤ w1.heap.size := by have h1 := hm.size; simp at h1; omega
    have hs2 : w.heap.size + 1 ≤ w2.heap.size := by have h1 := hm.size; have h2 := hf.2.size; simp at h1; omega
    go_wp2_with (at_builtin; refine stop_in ?_)
    unfold Stopped
    refine wpList_app_bytes rfl (.tmp 31) (.tmp 36) rfl base v l rfl (((hown.alloc _).below hm).below hf.2) A _ c (headB x.kind.toNat (numP x)) rfl (by simp) (by simpa using hsrc) (by have := HL.out; simp at this ⊢; omega) (by omega) ?_
    intro v3 w3 hown3 hg3 hat3
    obtain ⟨hbx3, hs3⟩ := more_box hown hm hf.2 hg3
    have hc2 := cell_box hbx3 2
    have hc3 := cell_box hbx3 3
    simp at hc2 hc3
    have hH3 : Holds w3 H := (((hH.alloc _).below hm (Nat.le_refl _)).below hf.2 (Nat.le_refl _)).grown hg3 HV.out
    have hsrc5 := Src.of_row hx.bytes.row hH3
    have hG3 : w.grownBy w3 v.ownBlock := grown_step (grown_of_below (((below_box w _).trans (hm.mono (by simp))).trans (hf.2.mono (by omega))) _) hg3 (.inl rfl)
    go_wp2_with (at_builtin; refine stop_in ?_)
    unfold Stopped
    refine wpList_app_bytes rfl (.tmp 38) (.tmp 40) rfl base v3 _ rfl hown3 ba _ bc x.bytes rfl rfl hsrc5 (by have := HL.out; simp at this ⊢; omega) (by omega) ?_
    intro v4 w4 hown4 hg4 hat4
    have hH4 : Holds w4 H := hH3.grown hg4 (fun g hg => by
      rcases hat3 with h | ⟨g', h, hg'⟩
      · exact HV.out g (h ▸ hg)
      · rw [h] at hg; injection hg with hg; subst hg; exact hH.none_of_ge (by omega))
    have hat34 : At0 w v.ownBlock v3.ownBlock := At0.step (.inl rfl) (by omega) hat3
    have hG4 : w.grownBy w4 v.ownBlock := grown_step hG3 hg4 hat34
    have hbx4 : w4.heap[w.heap.size]? = some (.cells #[.int .i64 x.kind, .int .u64 x.n, .slice ba x.bytes.length bc, .slice ia x.items.length ic] 26 (0, 0)) :=
      (hg4.block _ (by omega) (fun h => by
        rcases hat34 with h' | ⟨g', h', hg'⟩
        · rw [h'] at h; have := (hown.lt _ h.symm).2; omega
        · rw [h'] at h; injection h with h; subst h
          rcases hat3 with h3 | ⟨g3, h3, hg3'⟩
          · rw [h3] at h'; have := (hown.lt _ h').2; omega
          · rw [h'] at h3; injection h3 with h3; omega)).trans hbx3
    have hc43 := cell_box hbx4 3
    simp at hc43
    have hat44 : At0 w v.ownBlock v4.ownBlock := At0.step hat34 (by omega) hat4
    clear hc2 hc3 hbx3 hbx4
    go_wp2_with (at_builtin; refine stop_in ?_)
    have hil : x.items.length ≤ 9223372036854775807 := by have := HB.out; omega
    go_loopw [0, 45] (fun v' i wr => ∃ k : Nat, k ≤ x.items.length ∧ i = .int .i64 k ∧ OwnB wr base v' (l ++ headB x.kind.toNat (numP x) ++ x.bytes ++ encL (x.items.take k)) ∧
        w.grownBy wr v.ownBlock ∧ At0 w v.ownBlock v'.ownBlock) (fun _ i _ => x.items.length - (intOf i).toNat)
    case atStart => exact ⟨0, Nat.zero_le _, rfl, by simpa [encL] using hown4, hG4, hat44⟩
    case round =>
      obtain ⟨k, hkl, rfl, hown5, hG5, hat5⟩ := hrel
      by_cases hlt : k < x.items.length
      · have hH5 : Holds wr H := hH.grown hG5 HV.out
        obtain ⟨ib, io, hia, hel⟩ := hx.items (by omega)
        obtain ⟨eba, ebc, eia, eic, q0, q1, q2, q3, hex⟩ := hel.get k hlt
        subst hia
        have p0 := hH5.cell q0
        have p1 := hH5.cell q1
        have p2 := hH5.cell q2
        have p3 := hH5.cell q3
        have hfin := encL_take_succ x.items k hlt
        have hle := encL_take_le x.items (k + 1)
        have hrow : ∀ g, u0.ownBlock = some g → H g = none := fun g hg => by
          rcases hat5 with h | ⟨g', h, hg'⟩
          · exact HV.out g (h ▸ hg)
          · rw [h] at hg; injection hg with hg; subst hg; exact hH.none_of_ge hg'
        have hs5 := hG5.size
        have hlen5 : (l ++ headB x.kind.toNat (numP x) ++ x.bytes ++ encL (x.items.take k)).length + (encB x.items[k]).length ≤ 1099511627776 := by
          have h1 := HL.out
          rw [hfin] at hle
          simp only [List.length_append] at h1 hle ⊢
          omega
        have IHC := ih x.items[k] (cnt_items x k hlt) H _ _ eba _ ebc eia _ eic (wr.alloc (.cells #[.int .i64 x.items[k].kind, .int .u64 x.items[k].n, .slice eba x.items[k].bytes.length ebc, .slice eia x.items[k].items.length eic] 26)) base u0 _
          (hk.items.get k hlt) hex.arg (hH5.alloc _) (hown5.alloc _) (by simp; omega) hrow hlen5
        have IHH := Lib.hid IHC
        have HF := Lib.hid hfin
        clear hfin hle hlen5 hrow q0 q1 q2 q3 IHC
        go_wp2_with fail
        refine IHH.out.mono ?_
        rintro e w6 ⟨r6, rfl, hown6, hg6, hat6⟩
        have R : OwnB w6 base r6 (l ++ headB x.kind.toNat (numP x) ++ x.bytes ++ encL (x.items.take (k + 1))) ∧ w.grownBy w6 v.ownBlock ∧ At0 w v.ownBlock r6.ownBlock := by
          refine ⟨by rw [HF.out]; simpa using hown6, grown_step (grown_alloc hG5 _) hg6 hat5, At0.step hat5 (by simp; omega) hat6⟩
        clear hown6 hg6 hat6 hown5 hG5 hat5 IHH HF p0 p1 p2 p3
        go_wp2_with fail
        go_roundw
        case rel => exact ⟨k + 1, by omega, by go_num, R.1, R.2.1, R.2.2⟩
        case measure => simp [intOf]; omega
      · have hkk : k = x.items.length := by omega
        subst hkk
        rw [List.take_length] at hown5
        go_wp2_with fail
        go_ret
        exact ⟨_, rfl, by rw [E.out]; simpa using hown5, hG5, hat5⟩

theorem cbor_add (x : Itm) : AddSaid x := by
  have main : ∀ N, ∀ x : Itm, cnt x ≤ N → AddSaid x := by
    intro N
    induction N with
    | zero =>
      intro x hx
      have : 0 < cnt x := by cases x; rw [cnt]; omega
      omega
    | succ N ih =>
      intro x hx
      by_cases h8 : x.kind = 8
      · exact add_float x h8
      · by_cases h7 : x.kind = 7 ∧ 24 ≤ x.n
        · exact add_simple x h7.1 h7.2
        · exact add_more x h8 h7 fun y hy => ih y (by omega)
  exact main _ x (Nat.le_refl _)
end Go.Proofs.YtebcnkelbicbnaaGreatDoor
namespace Go.Proofs.YtebcnkelbicbnaaGreatDoor
open Go.RowKit

theorem nn_eq (n : Nat) : ((n : Int) == 9221120237041090560) = (n == 9221120237041090560) := by rw [Bool.eq_iff_iff, beq_iff_eq, beq_iff_eq]; omega
theorem len0 {α : Type} (l : List α) : ((l.length : Int) == 0) = l.isEmpty := by cases l <;> simp <;> omega
theorem tup2 {a b c d : Bool} (h : a = b) (k : c = d) : Ending.returned (.tuple #[.bool a, .bool c]) = Ending.returned (.tuple #[.bool b, .bool d]) := by rw [h, k]

set_option maxRecDepth 100000 in
set_option maxHeartbeats 1600000 in
theorem plain_a {H : Snap} {x : Itm} {ba : Option Addr} {bc : Nat} {ia : Option Addr} {ic : Nat} (hx : IsItem H ba bc ia ic x) (w : World) (hk : x.kind = 0 ∨ x.kind = 1 ∨ x.kind = 2 ∨ x.kind = 7):
    Calls Tryz.prog 72 #[itemV x ba bc ia ic] w fun e w' => e = .returned (.tuple #[.bool (okPlain x), .bool (isPlain x)]) ∧ Below w.heap.size w w' := by
  obtain ⟨_, _, hn, hb1, hb2, hi1, hi2⟩ := hx.bounds
  have hb : x.bytes.length ≤ 9223372036854775807 := by omega
  have hi : x.items.length ≤ 9223372036854775807 := by omega
  have HN := Lib.hid hn
  clear hb1 hb2 hi1 hi2 hx hn
  rcases hk with hk | hk | hk | hk
  all_goals
    have E : Hid (okPlain x = okPlain x ∧ isPlain x = true) := ⟨rfl, by simp [isPlain, hk]⟩
    go_enter Tryz.func72, Tryz.ntmps72
    go_wp2
    all_goals go_ret2
  all_goals refine ⟨tup2 ?_ E.out.2.symm, ?_⟩
  all_goals first | exact below_box w _ | exact (below_box w _).drew | skip
  all_goals (simp [okPlain, len0, *]; try (rw [Bool.eq_iff_iff]; simp; omega); skip)
  all_goals omega

set_option maxRecDepth 100000 in
set_option maxHeartbeats 1600000 in
theorem plain_t {H : Snap} (hT : Tabs H) {x : Itm} {ba : Option Addr} {bc : Nat} {ia : Option Addr} {ic : Nat} (hx : IsItem H ba bc ia ic x) (w : World) (hH : Holds w H) (hk : x.kind = 3):
    Calls Tryz.prog 72 #[itemV x ba bc ia ic] w fun e w' => e = .returned (.tuple #[.bool (okPlain x), .bool (isPlain x)]) ∧ Below w.heap.size w w' := by
  obtain ⟨_, _, hn, hb1, hb2, hi1, hi2⟩ := hx.bounds
  have hb : x.bytes.length ≤ 9223372036854775807 := by omega
  have hi : x.items.length ≤ 9223372036854775807 := by omega
  have HN := Lib.hid hn
  have hby := hx.bytes
  clear hb1 hb2 hi1 hi2 hx hn
  have E : Hid (isPlain x = true) := by simp [Hid, isPlain, hk]
  go_enter Tryz.func72, Tryz.ntmps72
  go_wp2_with (go_at_call 70; refine (utf8_Valid hT _ (hH.alloc _) ba _ _ bc rfl hby).mono ?_; rintro e w1 ⟨rfl, hb1⟩)
  all_goals go_ret2
  all_goals refine ⟨tup2 ?_ E.out.symm, ?_⟩
  all_goals first | exact (below_box w _).trans (hb1.mono (by simp)) | exact below_box w _ | exact (below_box w _).drew | skip
  all_goals (simp [okPlain, *])

set_option maxRecDepth 100000 in
set_option maxHeartbeats 1600000 in
theorem plain_f {H : Snap} {x : Itm} {ba : Option Addr} {bc : Nat} {ia : Option Addr} {ic : Nat} (hx : IsItem H ba bc ia ic x) (w : World) (hk : x.kind = 8) :
    Calls Tryz.prog 72 #[itemV x ba bc ia ic] w fun e w' => e = .returned (.tuple #[.bool (okPlain x), .bool (isPlain x)]) ∧ Below w.heap.size w w' := by
  obtain ⟨_, _, hn, hb1, hb2, hi1, hi2⟩ := hx.bounds
  have hb : x.bytes.length ≤ 9223372036854775807 := by omega
  have hi : x.items.length ≤ 9223372036854775807 := by omega
  have HN := Lib.hid hn
  clear hb1 hb2 hi1 hi2 hx hn
  have E : Hid (isPlain x = true) := by simp [Hid, isPlain, hk]
  go_enter Tryz.func72, Tryz.ntmps72
  have r1 := run_f64frombits x.n
  have r2 := order_feq x.n
  go_wp2
  all_goals go_ret2
  all_goals refine ⟨tup2 ?_ E.out.symm, ?_⟩
  all_goals first | exact below_box w _ | exact (below_box w _).drew | skip
  all_goals simp [okPlain, notNumber, nn_eq, *]

set_option maxRecDepth 100000 in
set_option maxHeartbeats 1600000 in
theorem plain_o {x : Itm} {ba : Option Addr} {bc : Nat} {ia : Option Addr} {ic : Nat} (w : World) (hk : isPlain x = false) :
    Calls Tryz.prog 72 #[itemV x ba bc ia ic] w fun e w' => e = .returned (.tuple #[.bool (okPlain x), .bool (isPlain x)]) ∧ Below w.heap.size w w' := by
  have h : (x.kind == 0) = false ∧ (x.kind == 1) = false ∧ (x.kind == 2) = false ∧ (x.kind == 3) = false ∧ (x.kind == 7) = false ∧ (x.kind == 8) = false := by
    simp only [isPlain, Bool.or_eq_false_iff] at hk
    simp only [hk, and_self]
  obtain ⟨h0, h1, h2, h3, h7, h8⟩ := h
  have E : Hid (isPlain x = false ∧ okPlain x = false) := ⟨hk, by
    simp only [beq_eq_false_iff_ne, ne_eq] at h0 h1 h2 h3 h7 h8
    simp [okPlain, *]⟩
  clear hk
  go_enter Tryz.func72, Tryz.ntmps72
  go_wp2
  go_ret2
  exact ⟨tup2 E.out.2.symm E.out.1.symm, below_box w _⟩

theorem cbor_plain {H : Snap} (hT : Tabs H) {k n : Int} {ba : Option Addr} {bl bc : Nat} {ia : Option Addr} {il ic : Nat} {x : Itm} (hx : ItemA H k n ba bl bc ia il ic x) (w : World) (hH : Holds w H) :
    Calls Tryz.prog 72 #[.agg #[.int .i64 k, .int .u64 n, .slice ba bl bc, .slice ia il ic]] w fun e w' => e = .returned (.tuple #[.bool (okPlain x), .bool (isPlain x)]) ∧ Below w.heap.size w w' := by
  obtain ⟨rfl, rfl, rfl, rfl, hx⟩ := hx
  by_cases h3 : x.kind = 3
  · exact plain_t hT hx w hH h3
  by_cases h8 : x.kind = 8
  · exact plain_f hx w h8
  by_cases ha : x.kind = 0 ∨ x.kind = 1 ∨ x.kind = 2 ∨ x.kind = 7
  · exact plain_a hx w ha
  · exact plain_o w (by simp [isPlain]; omega)
end Go.Proofs.YtebcnkelbicbnaaGreatDoor
