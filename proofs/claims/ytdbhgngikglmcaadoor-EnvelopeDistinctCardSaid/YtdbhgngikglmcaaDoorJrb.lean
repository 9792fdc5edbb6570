/- Walks: the references' left, joined; Valid; Encode. Walks: the references' Encode, Int, Bytes, label. Walks: the references' Copy, List, Copy of headers. Walks: the deck of numbers: Mod, New, Next; Short; short. -/
import Derived.Test.YtdbhgngikglmcaaDoorRgA
import Derived.Test.YtdbhgngikglmcaaDoorRgB
import Derived.Test.YtdbhgngikglmcaaDoorRgC
import Derived.Test.YtdbhgngikglmcaaDoorRgD
import Derived.Test.YtdbhgngikglmcaaDoorJlow
import Derived.Test.YtdbhgngikglmcaaDoorJpure
import Derived.Test.YtdbhgngikglmcaaDoorJmem
set_option linter.unusedVariables false
set_option linter.unusedSimpArgs false
namespace Go.Proofs.YtdbhgngikglmcaaDoor
open Go.RowKit

set_option maxRecDepth 100000 in
set_option maxHeartbeats 1600000 in
theorem left_out (x : Itm) (hk : x.kind < 0 ∨ 8 < x.kind) {ba : Option Addr} {bc : Nat} {ia : Option Addr} {ic : Nat} (w : World) (c d : Nat) (hc0 : 0 < c) (hc : c ≤ 65536) :
    Calls Tryd.prog 64 #[itemV x ba bc ia ic, .int .i64 c, .int .i64 d] w fun e w' => e = .returned (.int .i64 (leftI (leftP x c d))) ∧ Below w.heap.size w w' := by
  have E : Hid (leftP x c d = none) := left_none (nodeR_out hk)
  have hci : ¬ (c : Int) < 1 := by omega
  have b2 : (x.kind == 2) = false := by rw [beq_eq_false_iff_ne]; omega
  have b3 : (x.kind == 3) = false := by rw [beq_eq_false_iff_ne]; omega
  have b4 : (x.kind == 4) = false := by rw [beq_eq_false_iff_ne]; omega
  have b5 : (x.kind == 5) = false := by rw [beq_eq_false_iff_ne]; omega
  have b6 : (x.kind == 6) = false := by rw [beq_eq_false_iff_ne]; omega
  rcases hk with hk | hk
  · go_enter Tryd.func64, Tryd.ntmps64
    go_wp2_with fail
    go_ret
    exact ⟨by rw [E.out]; rfl, below_box w _⟩
  · have hk0 : ¬ x.kind < 0 := by omega
    go_enter Tryd.func64, Tryd.ntmps64
    go_wp2_with fail
    go_ret
    exact ⟨by rw [E.out]; rfl, below_box w _⟩

theorem ref_left (x : Itm) : LeftSaid x := by
  have main : ∀ N, ∀ x : Itm, cnt x ≤ N → LeftSaid x := by
    intro N
    induction N with
    | zero =>
      intro x hx
      have : 0 < cnt x := by cases x; rw [cnt]; omega
      omega
    | succ N ih =>
      intro x hx H hT k n ba bl bc ia il ic w c d ha hH hc hd
      obtain ⟨rfl, rfl, rfl, rfl, hi⟩ := ha.eqs_
      have ih' : ∀ y : Itm, cnt y < cnt x → LeftSaid y := fun y hy => ih y (by omega)
      rcases Nat.eq_zero_or_pos c with h0 | h0
      · subst h0
        exact left_zero x (H := H) w d
      · rcases (by omega : (x.kind < 0 ∨ 8 < x.kind) ∨ x.kind = 0 ∨ x.kind = 1 ∨ x.kind = 2 ∨ x.kind = 3 ∨ x.kind = 4 ∨ x.kind = 5 ∨ x.kind = 6 ∨ x.kind = 7 ∨ x.kind = 8) with h | h | h | h | h | h | h | h | h | h
        · exact left_out x h w c d h0 hc
        · exact left_k0 x h hT ih' hi w hH c d h0 hc hd
        · exact left_k1 x h hT ih' hi w hH c d h0 hc hd
        · exact left_k2 x h hT ih' hi w hH c d h0 hc hd
        · exact left_k3 x h hT ih' hi w hH c d h0 hc hd
        · exact left_k4 x h hT ih' hi w hH c d h0 hc hd
        · exact left_k5 x h hT ih' hi w hH c d h0 hc hd
        · exact left_k6 x h hT ih' hi w hH c d h0 hc hd
        · exact left_k7 x h hT ih' hi w hH c d h0 hc hd
        · exact left_k8 x h hT ih' hi w hH c d h0 hc hd
  exact main _ x (Nat.le_refl _)

theorem left_valid {x : Itm} {r : Nat} (h : leftP x 256 0 = some r) : Good x 0 ∧ (encB x).length ≤ 1099511627776 := by
  obtain ⟨h1, h2, h3⟩ := left_spec _ _ _ _ h
  have := h1.bytes h2
  exact ⟨h1, by omega⟩

set_option maxRecDepth 100000 in
set_option maxHeartbeats 1600000 in
theorem ref_Valid {H : Snap} (hT : Tabs H) {k n : Int} {ba : Option Addr} {bl bc : Nat} {ia : Option Addr} {il ic : Nat} {x : Itm} (hx : ItemA H k n ba bl bc ia il ic x) (w : World) (hH : Holds w H) :
    Calls Tryd.prog 41 #[.agg #[.int .i64 k, .int .u64 n, .slice ba bl bc, .slice ia il ic]] w fun e w' => e = .returned (.bool (validP x)) ∧ Below w.heap.size w w' := by
  obtain ⟨rfl, rfl, rfl, rfl, hxi⟩ := hx.eqs_
  have hB := Blk.new w 26 #[.int .i64 x.kind, .int .u64 x.n, .slice ba x.bytes.length bc, .slice ia x.items.length ic]
  have hb0 := below_box w (itemO x ba bc ia ic)
  have hH0 := hH.alloc (itemO x ba bc ia ic)
  have L := Lib.hid (ref_left x H hT _ _ _ _ _ _ _ _ (w.alloc (itemO x ba bc ia ic)) 256 0 hxi.arg hH0 (by omega) (by omega))
  have E0 := validR_eq x
  unfold validR at E0
  cases hl : leftP x 256 0 with
  | none =>
    rw [hl] at L E0
    have E : Hid (validP x = false) := by rw [Hid, ← E0]; rfl
    clear hl E0
    go_enter Tryd.func41, Tryd.ntmps41
    go_wp2_with fail
    refine L.out.mono ?_
    rintro e w1 ⟨rfl, hb1⟩
    have hbz := hb0.trans (hb1.mono hb0.size)
    simp only [leftI]
    go_wp2_with fail
    go_ret
    exact ⟨by rw [E.out]; rfl, hbz⟩
  | some r =>
    rw [hl] at L E0
    obtain ⟨hg, hle⟩ := left_valid hl
    have E : Hid (validP x = decide ((encB x).length ≤ 4096)) := by rw [Hid, ← E0]; rfl
    have hr0 : (0 : Int) ≤ (r : Int) := by omega
    have RW := Lib.hid (fun w1 : World => fun h1 : Holds w1 H => ref_Raw x H _ _ ba _ bc ia _ ic w1 0 hg hle hxi.arg h1)
    have HLE := Lib.hid hle
    clear hl E0 hg hle
    go_enter Tryd.func41, Tryd.ntmps41
    go_wp2_with fail
    refine L.out.mono ?_
    rintro e w1 ⟨rfl, hb1⟩
    have hB1 := hB.below hb1
    have hbz := hb0.trans (hb1.mono hb0.size)
    have hH1 := hH0.below hb1 (Nat.le_refl _)
    have c0 := hB1.cell 0 rfl
    have c1 := hB1.cell 1 rfl
    have c2 := hB1.cell 2 rfl
    have c3 := hB1.cell 3 rfl
    simp only [leftI]
    go_wp2_with fail
    refine (RW.out _ hH1).mono ?_
    rintro e w2 ⟨r2, rfl, hf⟩
    obtain ⟨RA, rc, rfl, _⟩ := hf.own.form
    have hby := hbz.trans (hf.2.mono hbz.size)
    have hle := HLE.out
    by_cases h4 : (encB x).length ≤ 4096
    · have E1 : Hid (validP x = true) := by rw [Hid, E.out, decide_eq_true h4]
      have h4i : ((encB x).length : Int) ≤ 4096 := by omega
      generalize (encB x).length = q at *
      clear h4 hf
      go_wp2_with fail
      go_ret
      exact ⟨by rw [E1.out]; rfl, hby⟩
    · have E1 : Hid (validP x = false) := by rw [Hid, E.out, decide_eq_false h4]
      have h4i : ¬ ((encB x).length : Int) ≤ 4096 := by omega
      generalize (encB x).length = q at *
      clear h4 hf
      go_wp2_with fail
      go_ret
      refine ⟨?_, hby⟩
      rw [E1.out]
      show Ending.returned (Value.bool (decide _)) = _
      rw [decide_eq_false (by omega)]
end Go.Proofs.YtdbhgngikglmcaaDoor
namespace Go.Proofs.YtdbhgngikglmcaaDoor
open Go.RowKit

/-- What Encode answers. -/
def EncSaidR (w : World) (x : Itm) (e : Ending) (w' : World) : Prop :=
  (validP x = false ∧ e = .returned (.tuple #[.slice none 0 0, .int .i64 1]) ∧ Below w.heap.size w w') ∨
  (validP x = true ∧ ∃ r, e = .returned (.tuple #[r, .int .i64 0]) ∧ Fresh w (encB x) r w')

set_option maxRecDepth 100000 in
set_option maxHeartbeats 1600000 in
theorem ref_Encode {H : Snap} (hT : Tabs H) {k n : Int} {ba : Option Addr} {bl bc : Nat} {ia : Option Addr} {il ic : Nat} {x : Itm} (hx : ItemA H k n ba bl bc ia il ic x) (w : World) (hH : Holds w H) :
    Calls Tryd.prog 27 #[.agg #[.int .i64 k, .int .u64 n, .slice ba bl bc, .slice ia il ic]] w (EncSaidR w x) := by
  obtain ⟨rfl, rfl, rfl, rfl, hxi⟩ := hx.eqs_
  have hH1 := hH.alloc (itemO x ba bc ia ic)
  have hb1 := below_box w (itemO x ba bc ia ic)
  have hB1 := Blk.new w 26 #[.int .i64 x.kind, .int .u64 x.n, .slice ba x.bytes.length bc, .slice ia x.items.length ic]
  have V := Lib.hid (ref_Valid hT hxi.arg _ hH1)
  go_enter Tryd.func27, Tryd.ntmps27
  go_wp2_with fail
  refine V.out.mono ?_
  rintro e w2 ⟨rfl, hb2⟩
  have hB2 := hB1.below hb2
  have b0 := hB2.cell 0 rfl
  have b1 := hB2.cell 1 rfl
  have b2 := hB2.cell 2 rfl
  have b3 := hB2.cell 3 rfl
  have hH2 := hH1.below hb2 (Nat.le_refl _)
  have hb := hb1.trans (hb2.mono hb1.size)
  cases hv : validP x with
  | false =>
    have hv' := Lib.hid hv
    clear hv
    go_wp2_with fail
    go_ret2
    exact .inl ⟨hv'.out, rfl, hb⟩
  | true =>
    have hg := (validP_iff x).1 hv
    have A := Lib.hid (ref_Raw x H _ _ ba _ bc ia _ ic w2 0 hg.1 (by omega) hxi.arg hH2)
    have hv' := Lib.hid hv
    clear hv hg
    go_wp2_with fail
    refine A.out.mono ?_
    rintro e w3 ⟨r, rfl, hf⟩
    go_wp2_with fail
    go_ret2
    exact .inr ⟨hv'.out, _, rfl, hf.step hb⟩

set_option maxRecDepth 100000 in
theorem ref_Int (n : Int) (h1 : -9223372036854775808 ≤ n) (h2 : n ≤ 9223372036854775807) {H : Snap} (w : World) (hH : Holds w H) :
    Calls Tryd.prog 29 #[.int .i64 n] w fun e w' => ∃ v, e = .returned v ∧ Gives w H (intP n) v w' := by
  by_cases h0 : n < 0
  · have E : Hid (intP n = .mk 1 (-1 - n).toNat [] [] ∧ (-1 - n).toNat < 18446744073709551616 ∧ -1 - n = ((-1 - n).toNat : Int)) := ⟨by rw [intP, if_pos h0], by omega, by omega⟩
    have K1 : IntKind.u64.wrap (-1 - n) = -1 - n := by rw [IntKind.wrap_u64]; omega
    have K0 : IntKind.i64.wrap (-1 - n) = -1 - n := IntWalk.i64_in _ (by omega)
    clear h1 h2
    go_enter Tryd.func29, Tryd.ntmps29
    go_wp2_with fail
    refine ret_row rfl rfl (Blk.new _ _ _) rfl rfl size_item rfl ?_
    rw [E.out.1]
    exact ⟨_, rfl, Gives.plain hH (below_box _ _) (by omega) E.out.2.1 E.out.2.2⟩
  · have E : Hid (intP n = .mk 0 n.toNat [] [] ∧ n.toNat < 18446744073709551616 ∧ n = (n.toNat : Int)) := ⟨by rw [intP, if_neg h0], by omega, by omega⟩
    have K1 : IntKind.u64.wrap n = n := by rw [IntKind.wrap_u64]; omega
    have hn := Int.not_lt.1 h0
    clear h1 h2 h0
    go_enter Tryd.func29, Tryd.ntmps29
    go_wp2_with fail
    refine ret_row rfl rfl (Blk.new _ _ _) rfl rfl size_item rfl ?_
    rw [E.out.1]
    exact ⟨_, rfl, Gives.plain hH (below_box _ _) (by omega) E.out.2.1 E.out.2.2⟩

set_option maxRecDepth 100000 in
theorem ref_Bytes {A : Option Addr} {n c : Nat} {l : List UInt8} (hn : n = l.length) (hl : l.length ≤ 1099511627776) {H : Snap} (w : World) (hs : Src w A (l.map byteV)) (hH : Holds w H) :
    Calls Tryd.prog 26 #[.slice A n c] w fun e w' => ∃ v, e = .returned v ∧ Gives w H (.mk 2 0 l []) v w' := by
  have HN := Lib.hid hn
  clear hn
  have hs1 := hs.alloc zeroO
  go_enter Tryd.func26, Tryd.ntmps26
  go_wp2_with (at_builtin; refine stop_in ?_)
  unfold Stopped
  refine wpList_app_bytes rfl (.const (.slice none 0 0)) (.tmp 3) rfl (w.heap.size + 1) (.slice none 0 0) [] rfl (OwnB.nil _ _) A n c l rfl HN.out hs1 (by simp; omega) (by simp) fun v' w1 hO hg _ => ?_
  have hf : Fresh (w.alloc zeroO) l v' w1 := ⟨by have := hO.more (base' := (w.alloc zeroO).heap.size) (by simp); simpa [OwnB] using this, grown_none (by simpa [Value.ownBlock] using hg)⟩
  have hB := (Blk.new w 26 #[.int .i64 0, .int .u64 0, .slice none 0 0, .slice none 0 0]).below hf.2
  have HF := Lib.hid (hf.gives (k := 2) (hH.alloc zeroO) (by omega))
  obtain ⟨A', c', rfl, _⟩ := hf.own.form
  clear hO hg hf
  go_wp2_with (with_reducible refine stop_store ?_)
  unfold Stopped
  refine wpList_store_item rfl _ _ _ rfl rfl _ _ rfl rfl _ _ hB size_item rfl (one4 _ _ _ _ rfl rfl rfl rfl) fun w2 hB2 hG2 => ?_
  go_wp2_with fail
  refine ret_row rfl rfl hB2 rfl rfl size_item rfl ?_
  exact ⟨_, rfl, HF.out.own (below_box _ _) hH hG2 (Nat.le_refl _) (by simp)⟩

set_option maxRecDepth 100000 in
theorem ref_Text (s : ByteArray) (hl : s.size ≤ 1099511627776) {H : Snap} (w : World) (hH : Holds w H) :
    Calls Tryd.prog 25 #[.string s] w fun e w' => ∃ v, e = .returned v ∧ Gives w H (.mk 3 0 s.data.toList []) v w' := by
  obtain ⟨g, c, w1, hr, hb, H', hG, hi⟩ := conv_string (hH.alloc zeroO) s hl
  have hB := (Blk.new w 26 #[.int .i64 0, .int .u64 0, .slice none 0 0, .slice none 0 0]).below hb
  have HI : Gives (w.alloc zeroO) H (.mk 3 0 s.data.toList []) (.agg #[.int .i64 3, .int .u64 0, .slice (some ⟨g, 0, none⟩) s.size c, .slice none 0 0]) w1 := by
    refine ⟨some ⟨g, 0, none⟩, c, none, 0, H', by simp [itemV, Itm.kind, Itm.n, Itm.bytes, Itm.items], hG, ?_⟩
    rw [IsItem]
    exact ⟨⟨by omega, by omega, by omega, Nat.le_refl _, by omega⟩, hi, fun h => absurd h (by simp)⟩
  have HII := Lib.hid HI
  clear hb hi HI
  go_enter Tryd.func25, Tryd.ntmps25
  go_wp2_with (with_reducible refine stop_store ?_)
  unfold Stopped
  refine wpList_store_item rfl _ _ _ rfl rfl _ _ rfl rfl _ _ hB size_item rfl (one4 _ _ _ _ rfl rfl rfl rfl) fun w2 hB2 hG2 => ?_
  go_wp2_with fail
  refine ret_row rfl rfl hB2 rfl rfl size_item rfl ?_
  exact ⟨_, rfl, HII.out.own (below_box _ _) hH hG2 (Nat.le_refl _) (by simp)⟩

set_option maxRecDepth 100000 in
set_option maxHeartbeats 1600000 in
theorem ref_label (k n : Int) (ba : Option Addr) (bl bc : Nat) (ia : Option Addr) (il ic : Nat) (w : World) :
    Calls Tryd.prog 61 #[.agg #[.int .i64 k, .int .u64 n, .slice ba bl bc, .slice ia il ic]] w fun e w' => e = .returned (.bool (k == 3 || ((k == 0 || k == 1) && decide (n ≤ 65535)))) ∧ Below w.heap.size w w' := by
  go_enter Tryd.func61, Tryd.ntmps61
  go_wp2_with fail
  all_goals
    go_ret
    refine ⟨?_, below_box _ _⟩
    show Ending.returned (Value.bool _) = _
    simp_all
theorem ref_labelP {H : Snap} {k n : Int} {ba : Option Addr} {bl bc : Nat} {ia : Option Addr} {il ic : Nat} {x : Itm} (hx : ItemA H k n ba bl bc ia il ic x) (w : World) :
    Calls Tryd.prog 61 #[.agg #[.int .i64 k, .int .u64 n, .slice ba bl bc, .slice ia il ic]] w fun e w' => e = .returned (.bool (labelP x)) ∧ Below w.heap.size w w' := by
  obtain ⟨rfl, rfl, rfl, rfl, hxi⟩ := hx.eqs_
  refine (ref_label x.kind x.n ba _ bc ia _ ic w).mono ?_
  rintro e w' ⟨rfl, hb⟩
  refine ⟨?_, hb⟩
  rw [labelP, numberP]
  congr 4
  simp
  omega
end Go.Proofs.YtdbhgngikglmcaaDoor
namespace Go.Proofs.YtdbhgngikglmcaaDoor
open Go.RowKit

theorem IsItem.build {H : Snap} {x : Itm} {ba : Option Addr} {bc : Nat} {ia : Option Addr} {ic : Nat} (hk : -9223372036854775808 ≤ x.kind ∧ x.kind ≤ 9223372036854775807) (hn : x.n < 18446744073709551616) (hb : IsBytes H ba bc x.bytes)
    (h1 : x.items.length ≤ ic) (h2 : ic ≤ 9223372036854775807) (he : 0 < x.items.length → ∃ b off, ia = some ⟨b, off, none⟩ ∧ IsElems H b off x.items) : IsItem H ba bc ia ic x := by
  cases x
  rw [IsItem]
  exact ⟨⟨hk.1, hk.2, hn, h1, h2⟩, hb, he⟩
def CopySaid (x : Itm) : Prop := ∀ (H : Snap) (k n : Int) (ba : Option Addr) (bl bc : Nat) (ia : Option Addr) (il ic : Nat) (w : World), Modest x → ItemA H k n ba bl bc ia il ic x → Holds w H →
  Calls Tryd.prog 50 #[.agg #[.int .i64 k, .int .u64 n, .slice ba bl bc, .slice ia il ic]] w fun e w' => ∃ v, e = .returned v ∧ Gives w H x v w'

set_option maxRecDepth 100000 in
set_option maxHeartbeats 6400000 in
theorem copy_step (x : Itm) (ih : ∀ y : Itm, cnt y < cnt x → CopySaid y) : CopySaid x := by
  intro H k n ba bl bc ia il ic w hm hx hH
  obtain ⟨rfl, rfl, rfl, rfl, hxi⟩ := hx.eqs_
  have HX := Lib.hid hxi
  have HM := Lib.hid hm
  have hml := hm.parts
  have hB := ((Blk.new w 26 #[.int .i64 x.kind, .int .u64 x.n, .slice ba x.bytes.length bc, .slice ia x.items.length ic]).alloc zeroO).drew
  have hT := (Blk.new (w.alloc (itemO x ba bc ia ic)) 26 #[.int .i64 0, .int .u64 0, .slice none 0 0, .slice none 0 0]).drew
  simp only [size_alloc] at hT
  have hb := ((below_box w (itemO x ba bc ia ic)).alloc (by simp) zeroO).drew
  have hHx : Holds ((w.alloc (itemO x ba bc ia ic)).alloc zeroO).drew H := ((hH.alloc _).alloc _).drew
  have hil : x.items.length ≤ 9223372036854775807 := by omega
  have hbl : x.bytes.length ≤ 1099511627776 := hml.1
  clear hx hxi hm hml
  go_enter Tryd.func50, Tryd.ntmps50
  go_upto_region 1 with fail
  go_cut [3] (fun s3 wx => ∃ N BA BC H1, s3 = .pointer (some ⟨N, 0, none⟩) ∧ Blk wx N 26 #[.int .i64 x.kind, .int .u64 x.n, .slice BA x.bytes.length BC, .slice none 0 0] ∧ Blk wx w.heap.size 26 #[.int .i64 x.kind, .int .u64 x.n, .slice ba x.bytes.length bc, .slice ia x.items.length ic] ∧
    Blk wx (w.heap.size + 1) 26 #[.int .i64 0, .int .u64 0, .slice none 0 0, .slice none 0 0] ∧ Grows w H wx H1 ∧ IsBytes H1 BA BC x.bytes ∧ H1 N = none ∧ H1 (w.heap.size + 1) = none ∧ w.heap.size + 1 < N)
  case first =>
    refine wp_region_ways 9 (fun w' => w'.cell? ⟨w.heap.size, 0, none⟩ = some (.int .i64 x.kind) ∧ w'.cell? ⟨w.heap.size, 1, none⟩ = some (.int .u64 x.n) ∧ w'.cell? ⟨w.heap.size, 2, none⟩ = some (.slice ba x.bytes.length bc)) (by kernel_rfl) (⟨hB.cell 0 rfl, hB.cell 1 rfl, hB.cell 2 rfl⟩) (fun hHeld => ?_)
    refine Ways.take (i := 0) (v := ?_) rfl (by kernel_rfl) (fun _ _ _ h => h) (Or.inl ⟨by rfl, ?_⟩) hHeld ?_
    rotate_left
    · (intro w hSw; (try dsimp only at hSw); go_simp; try with_reducible rfl)
    try simp only [Act.put, List.setIfInBounds_toArray, List.set_cons_zero, List.set_cons_succ]
    refine Ways.take (i := 1) (v := ?_) rfl (by kernel_rfl) (fun _ _ _ h => h) (Or.inl ⟨by rfl, ?_⟩) hHeld ?_
    rotate_left
    · (intro w hSw; (try dsimp only at hSw); go_simp; try with_reducible rfl)
    try simp only [Act.put, List.setIfInBounds_toArray, List.set_cons_zero, List.set_cons_succ]
    refine Ways.take (i := 2) (v := ?_) rfl (by kernel_rfl) (fun _ _ _ h => h) (Or.inl ⟨by rfl, ?_⟩) hHeld ?_
    rotate_left
    · (intro w hSw; (try dsimp only at hSw); go_simp; try with_reducible rfl)
    try simp only [Act.put, List.setIfInBounds_toArray, List.set_cons_zero, List.set_cons_succ]
    refine Ways.take (i := 3) (v := ?_) rfl (by kernel_rfl) (fun _ _ _ h => h) (Or.inl ⟨by rfl, ?_⟩) hHeld ?_
    rotate_left
    · (intro w hSw; (try dsimp only at hSw); go_simp; try with_reducible rfl)
    try simp only [Act.put, List.setIfInBounds_toArray, List.set_cons_zero, List.set_cons_succ]
    refine Ways.take (i := 4) (v := ?_) rfl (by kernel_rfl) (fun _ _ _ h => h) (Or.inl ⟨by rfl, ?_⟩) hHeld ?_
    rotate_left
    · (intro w hSw; (try dsimp only at hSw); go_simp; try with_reducible rfl)
    try simp only [Act.put, List.setIfInBounds_toArray, List.set_cons_zero, List.set_cons_succ]
    refine Ways.take (i := 5) (v := ?_) rfl (by kernel_rfl) (fun _ _ _ h => h) (Or.inl ⟨by rfl, ?_⟩) hHeld ?_
    rotate_left
    · (intro w hSw; (try dsimp only at hSw); go_simp; try with_reducible rfl)
    try simp only [Act.put, List.setIfInBounds_toArray, List.set_cons_zero, List.set_cons_succ]
    refine Ways.two (i := 6) (j := 8) rfl rfl (by kernel_rfl) (fun K hK => ?_) (fun K hK => ?_)
    · rw [if_pos (by rfl)]
      refine wp_app_bytes (.const (.slice none 0 0)) (.tmp 12) rfl _ (.slice none 0 0) [] rfl (OwnB.nil _ _) ba _ bc x.bytes rfl rfl (Src.of_row HX.out.bytes.row hHx) (by simpa using hbl) (Nat.le_refl _) fun v' w5 hO hg hat => ?_
      rw [List.nil_append] at hO
      have hbq := grown_none (by simpa [Value.ownBlock] using hg)
      obtain ⟨BA, BC, rfl, _⟩ := hO.form
      try have hne : ∀ q, (Value.slice BA x.bytes.length BC).ownBlock = some q → q ≠ w.heap.size + 1 + 1 := fun q hq e => by have h1 := (hO.lt q hq).1; have h2 := hP.lt; (try simp only [drew_heap, size_alloc] at h1 h2); omega
      have hO2 : ∀ q, (Value.slice BA x.bytes.length BC).ownBlock = some q → w.heap.size + 1 < q := fun q hq => by have h1 := (hO.lt q hq).1; have h2 := hT.lt; (try simp only [drew_heap, size_alloc] at h1 h2); omega
      have hB := hB.below hbq
      have hT := hT.below hbq
      try have hP := hP.below hbq
      have hb := hb.trans (hbq.mono hb.size)
      have hHx := hHx.below hbq (Nat.le_refl _)
      refine hK.out _ _ (fun _ => ?_) (fun hHeld => ?_)
      · exact ⟨hB.cell 0 rfl, hB.cell 1 rfl, hB.cell 2 rfl⟩
      clear hK K
      have hHeld := hHeld (by decide)
      try simp only [Act.put, List.setIfInBounds_toArray, List.set_cons_zero, List.set_cons_succ]
      refine Ways.take (i := 7) (v := ?_) rfl (by kernel_rfl) (fun _ _ _ h => h) (Or.inl ⟨by rfl, ?_⟩) hHeld ?_
      rotate_left
      · (intro w hSw; (try dsimp only at hSw); go_simp; try with_reducible rfl)
      try simp only [Act.put, List.setIfInBounds_toArray, List.set_cons_zero, List.set_cons_succ]
      refine Ways.one (i := 8) rfl (by kernel_rfl) (fun K hK => ?_)
      go_simp
      have hP := below_newBlk hb 26 #[.int .i64 0, .int .u64 0, .slice none 0 0, .slice none 0 0]
      try have hne : ∀ q, (Value.slice BA x.bytes.length BC).ownBlock = some q → q ≠ w5.heap.size := fun q hq e => by have h1 := (hO.lt q hq).2; omega
      have hNN := hT.lt
      try simp only [drew_heap, size_alloc] at hP hNN
      have hB := hB.alloc zeroO
      have hT := hT.alloc zeroO
      try have hO := hO.alloc zeroO
      have hHx := hHx.alloc zeroO
      have hb := hb.alloc hb.size zeroO
      refine hK.out _ _ (fun _ => ?_) (fun hHeld => ?_)
      · exact ⟨hB.cell 0 rfl, hB.cell 1 rfl, hB.cell 2 rfl⟩
      clear hK K
      have hHeld := hHeld (by decide)
      try simp only [Act.put, List.setIfInBounds_toArray, List.set_cons_zero, List.set_cons_succ]
      refine Ways.one (i := 9) rfl (by kernel_rfl) (fun K hK => ?_)
      rw [if_pos (by rfl)]
      refine wp_store_item _ _ _ rfl _ _ rfl rfl _ _ hP size_item rfl (one4 _ _ _ _ rfl rfl rfl rfl) fun w6 hP hg6 => ?_
      have hB := hB.grown hg6 (by intro e; injection e with e; omega)
      have hT := hT.grown hg6 (by intro e; injection e with e; omega)
      have hb := hb.grown hg6 hb.size (by rintro q ⟨⟩; omega)
      have hHx := hHx.grown hg6 (by rintro q ⟨⟩; exact hH.none_of_ge (by omega))
      have hO := hO.kept hg6 (by cases hv : (Value.slice BA x.bytes.length BC).ownBlock with | none => exact .inl rfl | some q => exact .inr (fun e => by injection e with e; exact hne q hv e))
      refine hK.out _ _ (fun h => absurd rfl h) (fun _ => ?_)
      clear hK K
      try simp only [Act.put, List.setIfInBounds_toArray, List.set_cons_zero, List.set_cons_succ]
      refine Ways.done (by kernel_rfl) ?_
      obtain ⟨H1, hl1, hh1, hf1, hz1, hi1⟩ := hO.snap hHx (fun q hq => hH.none_of_ge (by have := hO2 q (by cases BA <;> simp_all [Value.ownBlock]); omega))
      have hN1 : ∀ q, w.heap.size ≤ q → (∀ q', (Value.slice BA x.bytes.length BC).ownBlock = some q' → q' ≠ q) → H1 q = none := fun q hq hd => by
        cases hq1 : H1 q with
        | none => rfl
        | some o =>
          rcases hf1 q o hq1 with h | h
          · rw [hH.none_of_ge hq] at h; cases h
          · exact absurd rfl (hd q (by cases BA <;> simp_all [Value.ownBlock]))
      go_wp2_with fail
      go_meet
      exact ⟨_, _, _, H1, rfl, hP, hB, hT, ⟨hb, hl1, hh1, fun b o hb1 => (hf1 b o hb1).imp id fun h => by have := hO2 b (by cases BA <;> simp_all [Value.ownBlock]); omega⟩, hi1, hN1 _ (by omega) (fun q' hq' => hne q' hq'), hN1 _ (by omega) (fun q' hq' => by have := hO2 q' hq'; omega), by omega⟩
    · go_simp
      have hP := below_newBlk hb 26 #[.int .i64 0, .int .u64 0, .slice none 0 0, .slice none 0 0]
      try have hne : ∀ q, (Value.slice BA x.bytes.length BC).ownBlock = some q → q ≠ w5.heap.size := fun q hq e => by have h1 := (hO.lt q hq).2; omega
      have hNN := hT.lt
      try simp only [drew_heap, size_alloc] at hP hNN
      have hB := hB.alloc zeroO
      have hT := hT.alloc zeroO
      try have hO := hO.alloc zeroO
      have hHx := hHx.alloc zeroO
      have hb := hb.alloc hb.size zeroO
      refine hK.out _ _ (fun _ => ?_) (fun hHeld => ?_)
      · exact ⟨hB.cell 0 rfl, hB.cell 1 rfl, hB.cell 2 rfl⟩
      clear hK K
      have hHeld := hHeld (by decide)
      try simp only [Act.put, List.setIfInBounds_toArray, List.set_cons_zero, List.set_cons_succ]
      refine Ways.one (i := 6) rfl (by kernel_rfl) (fun K hK => ?_)
      rw [if_pos (by rfl)]
      refine wp_app_bytes (.const (.slice none 0 0)) (.tmp 12) rfl _ (.slice none 0 0) [] rfl (OwnB.nil _ _) ba _ bc x.bytes rfl rfl (Src.of_row HX.out.bytes.row hHx) (by simpa using hbl) (Nat.le_refl _) fun v' w5 hO hg hat => ?_
      rw [List.nil_append] at hO
      have hbq := grown_none (by simpa [Value.ownBlock] using hg)
      obtain ⟨BA, BC, rfl, _⟩ := hO.form
      try have hne : ∀ q, (Value.slice BA x.bytes.length BC).ownBlock = some q → q ≠ w.heap.size + 1 + 1 := fun q hq e => by have h1 := (hO.lt q hq).1; have h2 := hP.lt; (try simp only [drew_heap, size_alloc] at h1 h2); omega
      have hO2 : ∀ q, (Value.slice BA x.bytes.length BC).ownBlock = some q → w.heap.size + 1 < q := fun q hq => by have h1 := (hO.lt q hq).1; have h2 := hT.lt; (try simp only [drew_heap, size_alloc] at h1 h2); omega
      have hB := hB.below hbq
      have hT := hT.below hbq
      try have hP := hP.below hbq
      have hb := hb.trans (hbq.mono hb.size)
      have hHx := hHx.below hbq (Nat.le_refl _)
      refine hK.out _ _ (fun _ => ?_) (fun hHeld => ?_)
      · exact ⟨hB.cell 0 rfl, hB.cell 1 rfl, hB.cell 2 rfl⟩
      clear hK K
      have hHeld := hHeld (by decide)
      try simp only [Act.put, List.setIfInBounds_toArray, List.set_cons_zero, List.set_cons_succ]
      refine Ways.take (i := 7) (v := ?_) rfl (by kernel_rfl) (fun _ _ _ h => h) (Or.inl ⟨by rfl, ?_⟩) hHeld ?_
      rotate_left
      · (intro w hSw; (try dsimp only at hSw); go_simp; try with_reducible rfl)
      try simp only [Act.put, List.setIfInBounds_toArray, List.set_cons_zero, List.set_cons_succ]
      refine Ways.one (i := 9) rfl (by kernel_rfl) (fun K hK => ?_)
      rw [if_pos (by rfl)]
      refine wp_store_item _ _ _ rfl _ _ rfl rfl _ _ hP size_item rfl (one4 _ _ _ _ rfl rfl rfl rfl) fun w6 hP hg6 => ?_
      have hB := hB.grown hg6 (by intro e; injection e with e; omega)
      have hT := hT.grown hg6 (by intro e; injection e with e; omega)
      have hb := hb.grown hg6 hb.size (by rintro q ⟨⟩; omega)
      have hHx := hHx.grown hg6 (by rintro q ⟨⟩; exact hH.none_of_ge (by omega))
      have hO := hO.kept hg6 (by cases hv : (Value.slice BA x.bytes.length BC).ownBlock with | none => exact .inl rfl | some q => exact .inr (fun e => by injection e with e; exact hne q hv e))
      refine hK.out _ _ (fun h => absurd rfl h) (fun _ => ?_)
      clear hK K
      try simp only [Act.put, List.setIfInBounds_toArray, List.set_cons_zero, List.set_cons_succ]
      refine Ways.done (by kernel_rfl) ?_
      obtain ⟨H1, hl1, hh1, hf1, hz1, hi1⟩ := hO.snap hHx (fun q hq => hH.none_of_ge (by have := hO2 q (by cases BA <;> simp_all [Value.ownBlock]); omega))
      have hN1 : ∀ q, w.heap.size ≤ q → (∀ q', (Value.slice BA x.bytes.length BC).ownBlock = some q' → q' ≠ q) → H1 q = none := fun q hq hd => by
        cases hq1 : H1 q with
        | none => rfl
        | some o =>
          rcases hf1 q o hq1 with h | h
          · rw [hH.none_of_ge hq] at h; cases h
          · exact absurd rfl (hd q (by cases BA <;> simp_all [Value.ownBlock]))
      go_wp2_with fail
      go_meet
      exact ⟨_, _, _, H1, rfl, hP, hB, hT, ⟨hb, hl1, hh1, fun b o hb1 => (hf1 b o hb1).imp id fun h => by have := hO2 b (by cases BA <;> simp_all [Value.ownBlock]); omega⟩, hi1, hN1 _ (by omega) (fun q' hq' => hne q' hq'), hN1 _ (by omega) (fun q' hq' => by have := hO2 q' hq'; omega), by omega⟩
  case rest =>
    clear hB hT hb hHx
    obtain ⟨N, BA, BC, H1, rfl, hP, hB, hT, hG1, hi1, hn1, hn2, hNN⟩ := hcut
    have c3 := hB.cell 3 rfl
    have hNl := hP.lt
    have hO1 := OwnI.nil wc (N + 1) H1
    clear hB
    go_wp2_with fail
    go_loopw [4, 18] (fun v4 v18 wr => ∃ (j : Nat) (Hr : Snap) (VA : Option Addr) (vc vn : Nat), j ≤ x.items.length ∧ v18 = .int .i64 j ∧ v4 = .slice VA vn vc ∧ vn = (x.items.take j).length ∧ Grows w H wr Hr ∧ H1.le Hr ∧ OwnI wr (N + 1) (.slice VA vn vc) Hr (x.items.take j) ∧
      Blk wr N 26 #[.int .i64 x.kind, .int .u64 x.n, .slice BA x.bytes.length BC, .slice none 0 0] ∧ Blk wr (w.heap.size + 1) 26 #[.int .i64 0, .int .u64 0, .slice none 0 0, .slice none 0 0] ∧ Hr N = none ∧ Hr (w.heap.size + 1) = none ∧ (∀ q, (Value.slice VA vn vc).ownBlock = some q → Hr q = none)) (fun _ v18 _ => x.items.length - (intOf v18).toNat)
    case atStart => exact ⟨0, H1, _, _, _, Nat.zero_le _, rfl, rfl, rfl, hG1, Snap.le.refl _, hO1, hP, hT, hn1, hn2, by intro q hq; simp [Value.ownBlock] at hq⟩
    case round =>
      clear hP hT hG1 hn1 hn2 hO1
      obtain ⟨j, Hr, VA, vc, vn, hj, rfl, rfl, hvn, hGr, hle, hOr, hPr, hTr, hNr, hTn, hnr⟩ := hrel
      have HV := Lib.hid hvn
      clear hvn
      by_cases hlt : j < x.items.length
      · obtain ⟨ib, io, hia, hel⟩ := HX.out.items (by omega)
        obtain ⟨eba, ebc, eia, eic, q0, q1, q2, q3, hex⟩ := hel.get j hlt
        subst hia
        have p0 := (hGr.holds.mono hGr.le).cell q0
        have p1 := (hGr.holds.mono hGr.le).cell q1
        have p2 := (hGr.holds.mono hGr.le).cell q2
        have p3 := (hGr.holds.mono hGr.le).cell q3
        have hG2 := hGr.alloc (itemO x.items[j] eba ebc eia eic)
        have hO2 := hOr.alloc (itemO x.items[j] eba ebc eia eic)
        have hP2 := hPr.alloc (itemO x.items[j] eba ebc eia eic)
        have hT2 := hTr.alloc (itemO x.items[j] eba ebc eia eic)
        have IH := Lib.hid (ih x.items[j] (cnt_items x j hlt) Hr _ _ eba _ ebc eia _ eic _ (HM.out.parts.2.2.get j hlt) (hex.mono hGr.le).arg hG2.holds)
        have HT := Lib.hid (show x.items.take (j + 1) = x.items.take j ++ [x.items[j]] from List.take_succ_eq_append_getElem hlt)
        have hlm := HM.out.parts.2.1
        generalize x.items[j]'hlt = y at *
        clear q0 q1 q2 q3 hel hex hOr
        go_wp2_with fail
        refine IH.out.mono ?_
        rintro e w6 ⟨v6, rfl, ja, jb, jc, jd, H6, rfl, hG6, hi6⟩
        have hO6 := ((hO2.below hG6.below).mono hG6.le).alloc (.cells (itemC y ja jb jc jd).toArray 26)
        have hG7 := (hG2.trans hG6).alloc (.cells (itemC y ja jb jc jd).toArray 26)
        have hP6 := (hP2.below hG6.below).alloc (.cells (itemC y ja jb jc jd).toArray 26)
        have hT6 := (hT2.below hG6.below).alloc (.cells (itemC y ja jb jc jd).toArray 26)
        have hn6 : ∀ q, (Value.slice VA vn vc).ownBlock = some q → H6 q = none := fun q hq => hG6.none (hnr q hq) (hO2.lt q hq).2
        have hN6 := hG6.none hNr hP2.lt
        have hTn6 := hG6.none hTn hT2.lt
        have hle6 := hle.trans hG6.le
        clear p0 p1 p2 p3 IH hGr hPr hTr hG2 hG6 hP2 hT2
        go_wp2_with (at_builtin; refine stop_in ?_)
        unfold Stopped
        obtain rfl := HV.out
        refine wpList_app_items rfl (.tmp 22) (.tmp 25) rfl (N + 1) (.slice VA _ vc) H6 _ rfl hO6 _ 1 _ (itemC y ja jb jc jd) [y] rfl rfl (ItemsC.one hi6) (Src.new _ _ _ _ rfl _ rfl) (by rw [List.length_take]; simp; omega) (by have := hP6.lt; simp only [size_alloc] at this ⊢; omega) fun v' w7 hO7 hg7 hat7 => ?_
        obtain ⟨VA', vc', rfl, _⟩ := hO7.form
        have hG8 := hG7.grownRow hn6 (fun q hq => by have := (hO6.lt q hq).1; omega) hg7
        have hP7 := hP6.grown hg7 (fun e => by have := (hO6.lt N e).1; omega)
        have hT7 := hT6.grown hg7 (fun e => by have := (hO6.lt _ e).1; omega)
        have hn7 : ∀ q, (Value.slice VA' (x.items.take j ++ [y]).length vc').ownBlock = some q → H6 q = none := fun q hq => by
          rcases hat7 with h | ⟨g', h1, h2⟩
          · exact hn6 q (by rw [← h, hq])
          · rw [hq] at h1
            injection h1 with h1
            subst h1
            exact hG7.hidden h2
        have hl9 : (x.items.take j ++ [y]).length = j + 1 := by rw [← HT.out, List.length_take]; omega
        rw [hl9] at hO7 hn7
        rw [hl9]
        rw [← HT.out] at hO7
        clear hl9
        have hj63 : (j : Int) + 1 ≤ 9223372036854775807 := by omega
        clear hO6 hg7 hat7 hn6 hG7 hP6 hT6 hi6
        go_wp2_with fail
        go_roundw
        case rel => exact ⟨j + 1, H6, VA', vc', _, by omega, by go_num, rfl, by rw [List.length_take]; omega, hG8, hle6, hO7, hP7, hT7, hN6, hTn6, hn7⟩
        case measure => simp [intOf]; omega
      · have hkl : j = x.items.length := by omega
        subst hkl
        rw [List.take_length] at hOr
        have HV2 : Hid (vn = x.items.length) := by have := HV.out; rw [List.take_length] at this; exact this
        clear HV
        obtain ⟨H8, hl8, hh8, hf8, hz8, hle1, hle2, hel8⟩ := hOr.snap hGr.holds (fun g hg => hnr g (by cases VA <;> simp_all [Value.ownBlock]))
        have hlow : ∀ b, VA.map (·.block) = some b → N + 1 ≤ b := fun b hb => (hOr.lt b (by cases VA <;> simp_all [Value.ownBlock])).1
        have hGz : Grows w H wr H8 := ⟨hGr.below, hGr.le.trans hl8, hh8, fun b o hb => by
          rcases hf8 b o hb with h | h
          · exact hGr.fresh b o h
          · exact .inr (by have := hlow b h; omega)⟩
        have hkeep : ∀ q, q ≤ N → Hr q = none → H8 q = none := fun q hq h0 => by
          cases h8 : H8 q with
          | none => rfl
          | some o =>
            rcases hf8 q o h8 with h | h
            · rw [h0] at h; cases h
            · have := hlow q h; omega
        have hbd := HX.out.bounds
        have HI := Lib.hid (IsItem.build (x := x) (H := H8) (ba := BA) (bc := BC) (ia := VA) (ic := vc) ⟨hbd.1, hbd.2.1⟩ hbd.2.2.1 (hi1.mono (hle.trans hl8)) hle1 hle2 hel8)
        have hNz := hkeep N (Nat.le_refl _) hNr
        have hTz := hkeep (w.heap.size + 1) (by omega) hTn
        clear hbd hel8 hle1 hle2 hf8 hOr hGr hnr hlow hkeep hNr hTn hz8
        go_wp2_with (with_reducible refine stop_store ?_)
        unfold Stopped
        refine wpList_store_cell rfl _ _ _ rfl rfl N 3 (.slice VA vn vc) rfl rfl _ _ hPr size_items (by simp) rfl fun w9 hP9 hg9 => ?_
        have hT9 := hTr.grown hg9 (by intro e; injection e with e; omega)
        have hG9 := hGz.grownOwn hNz (by omega) hg9
        have r0 := hP9.cell 0 rfl
        have r1 := hP9.cell 1 rfl
        have r2 := hP9.cell 2 rfl
        have r3 := hP9.cell 3 rfl
        clear hPr hTr hGz
        go_wp2_with (with_reducible refine stop_store ?_)
        unfold Stopped
        refine wpList_store_item rfl _ _ _ rfl rfl _ _ rfl rfl _ _ hT9 size_item rfl (one4 _ _ _ _ rfl rfl rfl rfl) fun w10 hT10 hg10 => ?_
        have hG10 := hG9.grownOwn hTz (by omega) hg10
        go_wp2_with fail
        refine ret_row rfl rfl hT10 rfl rfl size_item rfl ?_
        obtain rfl := HV2.out
        exact ⟨_, rfl, BA, BC, VA, vc, H8, rfl, hG10, HI.out⟩
theorem ref_Copy (x : Itm) : CopySaid x := by
  have main : ∀ N, ∀ x : Itm, cnt x ≤ N → CopySaid x := by
    intro N
    induction N with
    | zero =>
      intro x hx
      have : 0 < cnt x := by cases x; rw [cnt]; omega
      omega
    | succ N ih =>
      intro x hx
      exact copy_step x fun y hy => ih y (by omega)
  exact main _ x (Nat.le_refl _)
end Go.Proofs.YtdbhgngikglmcaaDoor
namespace Go.Proofs.YtdbhgngikglmcaaDoor
open Go.RowKit

/-- A slice of ints. -/
structure IsInts (H : Snap) (A : Option Addr) (c : Nat) (l : List Int) : Prop where
  le : l.length ≤ c
  max : c ≤ 9223372036854775807
  row : Row H A (l.map (Value.int .i64))
  bnd : ∀ x ∈ l, -9223372036854775808 ≤ x ∧ x ≤ 9223372036854775807
theorem IsInts.mono {H K : Snap} {A : Option Addr} {c : Nat} {l : List Int} (h : IsInts H A c l) (hl : H.le K) : IsInts K A c l := ⟨h.le, h.max, h.row.mono hl, h.bnd⟩
/-- A deck lies in block g. -/
def Deck (w : World) (g : Nat) (H : Snap) : Prop := ∃ (A : Option Addr) (c : Nat) (l : List Int) (k : Nat), Blk w g 60 #[.slice A l.length c, .int .i64 k] ∧ IsInts H A c l ∧ k ≤ l.length
theorem Deck.mono {w : World} {g : Nat} {H K : Snap} (h : Deck w g H) (hl : H.le K) : Deck w g K := by
  obtain ⟨A, c, l, k, h1, h2, h3⟩ := h
  exact ⟨A, c, l, k, h1, h2.mono hl, h3⟩
theorem Deck.below {w w' : World} {g : Nat} {H : Snap} (h : Deck w g H) (hb : Below w.heap.size w w') : Deck w' g H := by
  obtain ⟨A, c, l, k, h1, h2, h3⟩ := h
  exact ⟨A, c, l, k, h1.below hb, h2, h3⟩
theorem Deck.lt {w : World} {g : Nat} {H : Snap} (h : Deck w g H) : g < w.heap.size := by
  obtain ⟨A, c, l, k, h1, h2, h3⟩ := h
  exact h1.lt

/-- The remainder from 0 on. -/
def modP (v n : Int) : Int := if v.tmod n < 0 then v.tmod n + n else v.tmod n
theorem modP_bnd (v n : Int) (hn : 0 < n) : 0 ≤ modP v n ∧ modP v n < n := by
  have h1 := Int.tmod_lt_of_pos v hn
  have h2 : -n < v.tmod n := by have := Int.tmod_lt_of_pos (-v) hn; rw [Int.neg_tmod] at this; omega
  unfold modP
  split <;> omega

set_option maxRecDepth 100000 in
theorem mk_Mod (v n : Int) (hn : 0 < n) (hn2 : n ≤ 1099511627776) (w : World) :
    Calls Tryd.prog 8 #[.int .i64 v, .int .i64 n] w fun e w' => e = .returned (.int .i64 (modP v n)) ∧ w = w' := by
  have h1 := Int.tmod_lt_of_pos v hn
  have h2 : -n < v.tmod n := by have := Int.tmod_lt_of_pos (-v) hn; rw [Int.neg_tmod] at this; omega
  have hn0 : (n == 0) = false := by rw [beq_eq_false_iff_ne]; omega
  have hn1 : (n = 0) = False := eq_false (by omega)
  have K1 : IntKind.i64.wrap (v.tmod n) = v.tmod n := IntWalk.i64_in _ (by omega)
  by_cases h0 : v.tmod n < 0
  · have E : Hid (modP v n = v.tmod n + n) := by rw [Hid, modP, if_pos h0]
    go_enter Tryd.func8, Tryd.ntmps8
    go_wp2_with fail
    go_ret
    exact ⟨by rw [E.out]; rfl, rfl⟩
  · have E : Hid (modP v n = v.tmod n) := by rw [Hid, modP, if_neg h0]
    go_enter Tryd.func8, Tryd.ntmps8
    go_wp2_with fail
    go_ret
    exact ⟨by rw [E.out]; rfl, rfl⟩

set_option maxRecDepth 100000 in
theorem mk_Short (A : Option Addr) (n c : Nat) (w : World) :
    Calls Tryd.prog 14 #[.slice A n c] w fun e w' => e = .returned (.bool (decide (n ≤ 600))) ∧ w = w' := by
  have E : Hid (decide ((n : Int) ≤ 600) = decide (n ≤ 600)) := by rw [Hid, Bool.eq_iff_iff, decide_eq_true_eq, decide_eq_true_eq]; omega
  go_enter Tryd.func14, Tryd.ntmps14
  go_wp2_with fail
  go_ret
  exact ⟨by rw [← E.out]; rfl, rfl⟩

set_option maxRecDepth 100000 in
theorem mk_New {H : Snap} {A : Option Addr} {c : Nat} {l : List Int} (hl : IsInts H A c l) (w : World) :
    Calls Tryd.prog 11 #[.slice A l.length c] w fun e w' => e = .returned (.pointer (some ⟨w.heap.size, 0, none⟩)) ∧ Deck w' w.heap.size H ∧ Below w.heap.size w w' := by
  have hB := Blk.new w 60 #[.slice A l.length c, .int .i64 0]
  have hb := below_box w (.cells #[.slice A l.length c, .int .i64 0] 60)
  have HL := Lib.hid hl
  clear hl
  go_enter Tryd.func11, Tryd.ntmps11
  go_wp2_with fail
  go_ret
  exact ⟨rfl, ⟨A, c, l, 0, hB, HL.out, Nat.zero_le _⟩, hb⟩

theorem size_int : (Tryd.prog.info? 3).map (·.size) = some 1 := by kernel_rfl
set_option maxRecDepth 100000 in
set_option maxHeartbeats 1600000 in
theorem mk_Next {H : Snap} {g : Nat} (w : World) (hD : Deck w g H) (hH : Holds w H) (hg : H g = none) (n : Int) (hn : 0 < n) (hn2 : n ≤ 1099511627776) :
    Calls Tryd.prog 17 #[.pointer (some ⟨g, 0, none⟩), .int .i64 n] w fun e w' => ∃ r : Int, e = .returned (.int .i64 r) ∧ 0 ≤ r ∧ r < n ∧ Deck w' g H ∧ w.grownBy w' (some g) := by
  obtain ⟨A, c, l, k, hB, hl, hk⟩ := hD
  have hc := hl.max
  have hle := hl.le
  have HL := Lib.hid hl
  have hBx := hB.drew
  clear hl
  have hkm : (k : Int) + 1 ≤ 9223372036854775807 ∨ l.length ≤ k := by omega
  have HKM := Lib.hid hkm
  have HN2 := Lib.hid hn2
  clear hc hle hkm hn2
  go_enter Tryd.func17, Tryd.ntmps17
  go_upto_region 1 with fail
  refine wp_region_ways 9 (fun w' => w'.cell? ⟨g, 0, none⟩ = some (.slice A l.length c) ∧ w'.cell? ⟨g, 1, none⟩ = some (.int .i64 k)) (by kernel_rfl) (⟨hBx.cell 0 rfl, hBx.cell 1 rfl⟩) (fun hHeld => ?_)
  refine Ways.take (i := 0) (v := ?_) rfl (by kernel_rfl) (fun _ _ _ h => h) (Or.inl ⟨by rfl, ?_⟩) hHeld ?_
  rotate_left
  · (intro w hSw; (try dsimp only at hSw); go_simp; try with_reducible rfl)
  try simp only [Act.put, List.setIfInBounds_toArray, List.set_cons_zero, List.set_cons_succ]
  refine Ways.take (i := 1) (v := ?_) rfl (by kernel_rfl) (fun _ _ _ h => h) (Or.inl ⟨by rfl, ?_⟩) hHeld ?_
  rotate_left
  · (intro w hSw; (try dsimp only at hSw); go_simp; try with_reducible rfl)
  try simp only [Act.put, List.setIfInBounds_toArray, List.set_cons_zero, List.set_cons_succ]
  refine Ways.take (i := 2) (v := ?_) rfl (by kernel_rfl) (fun _ _ _ h => h) (Or.inl ⟨by rfl, ?_⟩) hHeld ?_
  rotate_left
  · (intro w hSw; (try dsimp only at hSw); go_simp; try with_reducible rfl)
  try simp only [Act.put, List.setIfInBounds_toArray, List.set_cons_zero, List.set_cons_succ]
  refine Ways.take (i := 3) (v := ?_) rfl (by kernel_rfl) (fun _ _ _ h => h) (Or.inl ⟨by rfl, ?_⟩) hHeld ?_
  rotate_left
  · (intro w hSw; (try dsimp only at hSw); go_simp; try with_reducible rfl)
  try simp only [Act.put, List.setIfInBounds_toArray, List.set_cons_zero, List.set_cons_succ]
  refine Ways.take (i := 4) (v := ?_) rfl (by kernel_rfl) (fun _ _ _ h => h) (Or.inl ⟨by rfl, ?_⟩) hHeld ?_
  rotate_left
  · (intro w hSw; (try dsimp only at hSw); go_simp; try with_reducible rfl)
  try simp only [Act.put, List.setIfInBounds_toArray, List.set_cons_zero, List.set_cons_succ]
  refine Ways.take (i := 5) (v := ?_) rfl (by kernel_rfl) (fun _ _ _ h => h) (Or.inl ⟨by rfl, ?_⟩) hHeld ?_
  rotate_left
  · (intro w hSw; (try dsimp only at hSw); go_simp; try with_reducible rfl)
  try simp only [Act.put, List.setIfInBounds_toArray, List.set_cons_zero, List.set_cons_succ]
  refine Ways.take (i := 6) (v := ?_) rfl (by kernel_rfl) (fun _ _ _ h => h) (Or.inl ⟨by rfl, ?_⟩) hHeld ?_
  rotate_left
  · (intro w hSw; (try dsimp only at hSw); go_simp; try with_reducible rfl)
  try simp only [Act.put, List.setIfInBounds_toArray, List.set_cons_zero, List.set_cons_succ]
  refine Ways.take (i := 7) (v := ?_) rfl (by kernel_rfl) (fun _ _ _ h => h) (Or.inl ⟨by rfl, ?_⟩) hHeld ?_
  rotate_left
  · (intro w hSw; (try dsimp only at hSw); go_simp; try with_reducible rfl)
  try simp only [Act.put, List.setIfInBounds_toArray, List.set_cons_zero, List.set_cons_succ]
  refine Ways.take (i := 8) (v := ?_) rfl (by kernel_rfl) (fun _ _ _ h => h) (Or.inl ⟨by rfl, ?_⟩) hHeld ?_
  rotate_left
  · (intro w hSw; (try dsimp only at hSw); go_simp; try with_reducible rfl)
  try simp only [Act.put, List.setIfInBounds_toArray, List.set_cons_zero, List.set_cons_succ]
  refine Ways.one (i := 9) rfl (by kernel_rfl) (fun K hK => ?_)
  go_simp
  refine hK.out _ _ (fun h => absurd rfl h) (fun _ => ?_)
  clear hK K
  try simp only [Act.put, List.setIfInBounds_toArray, List.set_cons_zero, List.set_cons_succ]
  refine Ways.done (by kernel_rfl) ?_
  clear hHeld
  by_cases hlt : k < l.length
  · have hki : ¬ (l.length : Int) ≤ k := by omega
    have c1 := hBx.cell 1 rfl
    have hk1 : (k : Int) + 1 ≤ 9223372036854775807 := by have := HKM.out; omega
    have hw1 : IntKind.i64.wrap ((k : Int) + 1) = (k : Int) + 1 := IntWalk.i64_in _ (by omega)
    clear hk1
    go_wp2_with (with_reducible refine stop_store ?_)
    unfold Stopped
    refine wpList_store_cell rfl _ _ _ rfl rfl g 1 (.int .i64 ((k : Int) + 1)) rfl rfl _ _ hBx size_int (by simp) rfl fun w2 hB2 hG2 => ?_
    obtain ⟨ib, io, rfl, hcell⟩ := HL.out.row (by intro h; rw [List.map_eq_nil_iff] at h; subst h; simp at hlt)
    have hG2 := grown_step (grown_drew (grown_refl w (some g))) hG2 (.inl rfl)
    have hH2 : Holds w2 H := hH.grown hG2 (by rintro q ⟨⟩; exact hg)
    have hx := hcell k (.int .i64 l[k]) (by simp [hlt])
    have hB3 : Blk w2 g 60 #[.slice (some ⟨ib, io, none⟩) l.length c, .int .i64 ((k : Int) + 1)] := hB2
    have MD := Lib.hid (fun w3 : World => mk_Mod l[k] n hn HN2.out w3)
    have hbn := modP_bnd l[k] n hn
    generalize l[k]'hlt = x at *
    have hHx := hH2.drew
    have hBy := hB3.drew
    have hG3 := grown_drew hG2
    have hki2 : (k : Int) < l.length := by omega
    have hs1 : IntKind.i64.wrap ((k : Int) + 1 - 1) = (k : Int) := by rw [show (k : Int) + 1 - 1 = k by omega]; exact IntWalk.i64_in _ (by have := HKM.out; omega)
    have hs3 : IntKind.i64.wrap (k : Int) = (k : Int) := IntWalk.i64_in _ (by have := HKM.out; omega)
    have hk0 : (0 : Int) ≤ k := by omega
    have HBN := Lib.hid hbn
    clear hB2 hG2 hH2 c1 hBx hB hcell hbn hki
    go_upto_region 4 with fail
    refine wp_region_ways 13 (fun w' => w'.cell? ⟨g, 0, none⟩ = some (.slice (some ⟨ib, io, none⟩) l.length c) ∧ w'.cell? ⟨g, 1, none⟩ = some (.int .i64 ((k : Int) + 1)) ∧ w'.cell? ⟨ib, io + k, none⟩ = some (.int .i64 x)) (by kernel_rfl) (⟨hBy.cell 0 rfl, hBy.cell 1 rfl, hHx.cell hx⟩) (fun hHeld => ?_)
    refine Ways.take (i := 0) (v := ?_) rfl (by kernel_rfl) (fun _ _ _ h => h) (Or.inl ⟨by rfl, ?_⟩) hHeld ?_
    rotate_left
    · (intro w hSw; (try dsimp only at hSw); go_simp; try with_reducible rfl)
    try simp only [Act.put, List.setIfInBounds_toArray, List.set_cons_zero, List.set_cons_succ]
    refine Ways.take (i := 1) (v := ?_) rfl (by kernel_rfl) (fun _ _ _ h => h) (Or.inl ⟨by rfl, ?_⟩) hHeld ?_
    rotate_left
    · (intro w hSw; (try dsimp only at hSw); go_simp; try with_reducible rfl)
    try simp only [Act.put, List.setIfInBounds_toArray, List.set_cons_zero, List.set_cons_succ]
    refine Ways.take (i := 2) (v := ?_) rfl (by kernel_rfl) (fun _ _ _ h => h) (Or.inl ⟨by rfl, ?_⟩) hHeld ?_
    rotate_left
    · (intro w hSw; (try dsimp only at hSw); go_simp; try with_reducible rfl)
    try simp only [Act.put, List.setIfInBounds_toArray, List.set_cons_zero, List.set_cons_succ]
    refine Ways.take (i := 3) (v := ?_) rfl (by kernel_rfl) (fun _ _ _ h => h) (Or.inl ⟨by rfl, ?_⟩) hHeld ?_
    rotate_left
    · (intro w hSw; (try dsimp only at hSw); go_simp; try with_reducible rfl)
    try simp only [Act.put, List.setIfInBounds_toArray, List.set_cons_zero, List.set_cons_succ]
    refine Ways.take (i := 4) (v := ?_) rfl (by kernel_rfl) (fun _ _ _ h => h) (Or.inl ⟨by rfl, ?_⟩) hHeld ?_
    rotate_left
    · (intro w hSw; (try dsimp only at hSw); go_simp; try with_reducible rfl)
    try simp only [Act.put, List.setIfInBounds_toArray, List.set_cons_zero, List.set_cons_succ]
    refine Ways.take (i := 5) (v := ?_) rfl (by kernel_rfl) (fun _ _ _ h => h) (Or.inl ⟨by rfl, ?_⟩) hHeld ?_
    rotate_left
    · (intro w hSw; (try dsimp only at hSw); go_simp; try with_reducible rfl)
    try simp only [Act.put, List.setIfInBounds_toArray, List.set_cons_zero, List.set_cons_succ]
    refine Ways.take (i := 6) (v := ?_) rfl (by kernel_rfl) (fun _ _ _ h => h) (Or.inl ⟨by rfl, ?_⟩) hHeld ?_
    rotate_left
    · (intro w hSw; (try dsimp only at hSw); go_simp; try with_reducible rfl)
    try simp only [Act.put, List.setIfInBounds_toArray, List.set_cons_zero, List.set_cons_succ]
    refine Ways.take (i := 7) (v := ?_) rfl (by kernel_rfl) (fun _ _ _ h => h) (Or.inl ⟨by rfl, ?_⟩) hHeld ?_
    rotate_left
    · (intro w hSw; (try dsimp only at hSw); go_simp; try with_reducible rfl)
    try simp only [Act.put, List.setIfInBounds_toArray, List.set_cons_zero, List.set_cons_succ]
    refine Ways.take (i := 8) (v := ?_) rfl (by kernel_rfl) (fun _ _ _ h => h) (Or.inl ⟨by rfl, ?_⟩) hHeld ?_
    rotate_left
    · (intro w hSw; (try dsimp only at hSw); go_simp; try with_reducible rfl)
    try simp only [Act.put, List.setIfInBounds_toArray, List.set_cons_zero, List.set_cons_succ]
    refine Ways.take (i := 9) (v := ?_) rfl (by kernel_rfl) (fun _ _ _ h => h) (Or.inl ⟨by rfl, ?_⟩) hHeld ?_
    rotate_left
    · (intro w hSw; (try dsimp only at hSw); go_simp; try with_reducible rfl)
    try simp only [Act.put, List.setIfInBounds_toArray, List.set_cons_zero, List.set_cons_succ]
    refine Ways.take (i := 10) (v := ?_) rfl (by kernel_rfl) (fun _ _ _ h => h) (Or.inl ⟨by rfl, ?_⟩) hHeld ?_
    rotate_left
    · (intro w hSw; (try dsimp only at hSw); go_simp; try with_reducible rfl)
    try simp only [Act.put, List.setIfInBounds_toArray, List.set_cons_zero, List.set_cons_succ]
    refine Ways.take (i := 11) (v := ?_) rfl (by kernel_rfl) (fun _ _ _ h => h) (Or.inl ⟨by rfl, ?_⟩) hHeld ?_
    rotate_left
    · (intro w hSw; (try dsimp only at hSw); go_simp; try with_reducible rfl)
    try simp only [Act.put, List.setIfInBounds_toArray, List.set_cons_zero, List.set_cons_succ]
    refine Ways.one (i := 12) rfl (by kernel_rfl) (fun K hK => ?_)
    go_simp
    refine (MD.out _).mono ?_
    rintro e w5 ⟨rfl, rfl⟩
    refine hK.out _ _ (fun _ => ?_) (fun hHeld => ?_)
    · exact ⟨hBy.cell 0 rfl, hBy.cell 1 rfl, hHx.cell hx⟩
    clear hK K
    have hHeld := hHeld (by decide)
    try simp only [Act.put, List.setIfInBounds_toArray, List.set_cons_zero, List.set_cons_succ]
    refine Ways.one (i := 13) rfl (by kernel_rfl) (fun K hK => ?_)
    go_simp
    refine hK.out _ _ (fun h => absurd rfl h) (fun _ => ?_)
    clear hK K
    try simp only [Act.put, List.setIfInBounds_toArray, List.set_cons_zero, List.set_cons_succ]
    refine Ways.done (by kernel_rfl) ?_
    clear hHeld
    go_wp2_with fail
    go_ret
    exact ⟨_, rfl, HBN.out.1, HBN.out.2, ⟨_, c, l, k + 1, hBy, HL.out, by omega⟩, hG3⟩
  · have hki : (l.length : Int) ≤ k := by omega
    go_wp2_with fail
    go_ret
    exact ⟨0, rfl, by omega, hn, ⟨A, c, l, k, hBx, HL.out, hk⟩, grown_drew (grown_refl w _)⟩
end Go.Proofs.YtdbhgngikglmcaaDoor
