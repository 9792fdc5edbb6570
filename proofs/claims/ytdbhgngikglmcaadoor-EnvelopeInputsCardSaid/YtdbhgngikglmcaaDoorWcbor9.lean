/- Walks: cbor.checker.item joined, cbor.Valid, cbor.Encode. -/
import Derived.Test.YtdbhgngikglmcaaDoorWcbor8
set_option linter.unusedVariables false
set_option linter.unusedSimpArgs false
namespace Go.Proofs.YtdbhgngikglmcaaDoor
open Go.RowKit

theorem ItemA.eqs {H : Snap} {k n : Int} {ba : Option Addr} {bl bc : Nat} {ia : Option Addr} {il ic : Nat} {x : Itm} (h : ItemA H k n ba bl bc ia il ic x) : k = x.kind ∧ n = (x.n : Int) ∧ bl = x.bytes.length ∧ il = x.items.length ∧ IsItem H ba bc ia ic x := ⟨h.1, h.2, h.3, h.4, h.5⟩

theorem cbor_item (x : Itm) : ItemSaid x := by
  have main : ∀ N, ∀ x : Itm, cnt x ≤ N → ItemSaid x := by
    intro N
    induction N with
    | zero =>
      intro x hx
      have : 0 < cnt x := by cases x; rw [cnt]; omega
      omega
    | succ N ih =>
      intro x hx H k n ba bl bc ia il ic w g i s lv hT ha hH hg hc hi hs hlv
      obtain ⟨rfl, rfl, rfl, rfl, hxi⟩ := ha.eqs
      by_cases h0 : 256 < i + 1 ∨ 4096 < x.bytes.length ∨ 256 < x.items.length
      · exact item_many x i s lv h0 hxi w g hc hi
      · by_cases hp : isPlain x = true
        · exact item_plain x i s lv (by omega) (by omega) (by omega) hp hT hxi w hH g hg hc hs
        · have hp' : isPlain x = false := by simpa using hp
          by_cases hf : frameOk x lv = true
          · exact item_more x (fun y hy => ih y (by omega)) i s lv (by omega) (by omega) (by omega) hp' hf hT hxi w hH g hg hc hs
          · exact item_frame x i s lv (by omega) (by omega) (by omega) hp' (by simpa using hf) hT hxi w hH g hg hc hs hlv
  exact main _ x (Nat.le_refl _)

set_option maxRecDepth 100000 in
set_option maxHeartbeats 1600000 in
theorem cbor_Valid {H : Snap} (hT : Tabs H) {k n : Int} {ba : Option Addr} {bl bc : Nat} {ia : Option Addr} {il ic : Nat} {x : Itm} (hx : ItemA H k n ba bl bc ia il ic x) (w : World) (hH : Holds w H) :
    Calls Tryd.prog 37 #[.agg #[.int .i64 k, .int .u64 n, .slice ba bl bc, .slice ia il ic]] w fun e w' => e = .returned (.bool (validP x)) ∧ Below w.heap.size w w' := by
  have W1 := fun w1 : World => fun h1 : Holds w1 H => fun hg => fun hc => (cbor_item x) H k n ba bl bc ia il ic w1 (w.heap.size + 1) 0 0 0 hT hx h1 hg hc (by omega) (by omega) (by omega)
  have hH2 := (hH.alloc (.cells #[.int .i64 k, .int .u64 n, .slice ba bl bc, .slice ia il ic] 26))
  have hg2 : H (w.heap.size + 1) = none := hH.none_of_ge (by omega)
  have hC := Blk.new (w.alloc (.cells #[.int .i64 k, .int .u64 n, .slice ba bl bc, .slice ia il ic] 26)) 94 #[.int .i64 0, .int .i64 0]
  rw [show (w.alloc (.cells #[.int .i64 k, .int .u64 n, .slice ba bl bc, .slice ia il ic] 26)).heap.size = w.heap.size + 1 by simp] at hC
  have I := Lib.hid (W1 _ (hH2.alloc (.cells #[.int .i64 0, .int .i64 0] 94)) hg2 hC)
  have B2 := Lib.hid ((below_box w (.cells #[.int .i64 k, .int .u64 n, .slice ba bl bc, .slice ia il ic] 26)).alloc (by simp) (.cells #[.int .i64 0, .int .i64 0] 94))
  clear W1 hH2 hg2 hC hx
  go_enter Tryd.func37, Tryd.ntmps37
  go_wp2_with fail
  refine I.out.mono ?_
  rintro e w2 ⟨rfl, hG, _⟩
  go_wp2_with fail
  go_ret
  exact ⟨rfl, below_of_grown B2.out hG (by simp)⟩

/-- What Encode answers. -/
def EncSaid (w : World) (x : Itm) (e : Ending) (w' : World) : Prop :=
  (validP x = false ∧ e = .returned (.tuple #[.slice none 0 0, .int .i64 1]) ∧ Below w.heap.size w w') ∨
  (validP x = true ∧ ∃ r, e = .returned (.tuple #[r, .int .i64 0]) ∧ Fresh w (encB x) r w')

set_option maxRecDepth 100000 in
set_option maxHeartbeats 1600000 in
theorem cbor_Encode {H : Snap} (hT : Tabs H) {k n : Int} {ba : Option Addr} {bl bc : Nat} {ia : Option Addr} {il ic : Nat} {x : Itm} (hx : ItemA H k n ba bl bc ia il ic x) (w : World) (hH : Holds w H) :
    Calls Tryd.prog 22 #[.agg #[.int .i64 k, .int .u64 n, .slice ba bl bc, .slice ia il ic]] w (EncSaid w x) := by
  have hH1 := (hH.alloc (.cells #[.int .i64 k, .int .u64 n, .slice ba bl bc, .slice ia il ic] 26))
  have hb1 := below_box w (.cells #[.int .i64 k, .int .u64 n, .slice ba bl bc, .slice ia il ic] 26)
  have hB1 := Blk.new w 26 #[.int .i64 k, .int .u64 n, .slice ba bl bc, .slice ia il ic]
  have V := Lib.hid (cbor_Valid hT hx _ hH1)
  go_enter Tryd.func22, Tryd.ntmps22
  go_wp2_with fail
  refine V.out.mono ?_
  rintro e w2 ⟨rfl, hb2⟩
  have hB2 := hB1.below hb2
  have b0 := hB2.cell 0 rfl
  have b1 := hB2.cell 1 rfl
  have b2 := hB2.cell 2 rfl
  have b3 := hB2.cell 3 rfl
  have hH2 := hH1.below hb2 (Nat.le_refl _)
  have hb := hb1.trans (hb2.mono hb1.size)
  cases hv : validP x with
  | false =>
    have hv' := Lib.hid hv
    clear hv
    go_wp2_with fail
    go_ret2
    exact .inl ⟨hv'.out, rfl, hb⟩
  | true =>
    obtain ⟨hk, _, hl⟩ := validP_spec hv
    have A := Lib.hid (cbor_add x H k n ba bl bc ia il ic w2 w2.heap.size (.slice none 0 0) [] hk hx hH2 (OwnB.nil _ _) (Nat.le_refl _) (by simp [Value.ownBlock]) (by simp; omega))
    have hv' := Lib.hid hv
    clear hv hl
    go_wp2_with fail
    refine A.out.mono ?_
    rintro e w3 ⟨r, rfl, hown, hg, _⟩
    go_wp2_with fail
    go_ret2
    refine .inr ⟨hv'.out, _, rfl, ?_, ?_⟩
    · simpa [OwnB] using hown.more (base' := w.heap.size) hb.size
    · exact hb.trans ((grown_none (by simpa [Value.ownBlock] using hg)).mono hb.size)
end Go.Proofs.YtdbhgngikglmcaaDoor
