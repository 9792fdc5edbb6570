/- Walks: cbor.checker.item on arrays, maps and tags; cbor.Valid. Walks: cbor.checker.item joined, cbor.Valid, cbor.Encode. Walk: cbor.copied. Walks: envelope.Input. Walks: the references' List, Copy of headers. Walks: the program's reader of items: tags. -/
import Derived.Test.YtebcnkelbicbnaaGreatDoorM17
import Derived.Deep.DeepCutAuto
import Derived.Test.YtebcnkelbicbnaaGreatDoorM01
import Derived.Test.YtebcnkelbicbnaaGreatDoorM02
import Derived.Test.YtebcnkelbicbnaaGreatDoorM00
import Derived.Test.YtebcnkelbicbnaaGreatDoorM08
import Derived.Test.YtebcnkelbicbnaaGreatDoorM09
import Derived.Test.YtebcnkelbicbnaaGreatDoorM16
set_option linter.unusedVariables false
set_option linter.unusedSimpArgs false
namespace Go.Proofs.YtebcnkelbicbnaaGreatDoor
open Go.RowKit

set_option maxRecDepth 100000 in
set_option maxHeartbeats 3200000 in
theorem item_more (x : Itm) (ih : ∀ y : Itm, cnt y < cnt x → ItemSaid y) (i s lv : Nat) (h1 : i + 1 ≤ 256) (h2 : x.bytes.length ≤ 4096) (h3 : x.items.length ≤ 256) (hp : isPlain x = false) (hf : frameOk x lv = true) {H : Snap} (hT : Tabs H) {ba : Option Addr} {bc : Nat} {ia : Option Addr} {ic : Nat} (hx : IsItem H ba bc ia ic x)
    (w : World) (hH : Holds w H) (g : Nat) (hg : H g = none) (hc : Chk w g i s) (hs : s ≤ 4096) :
    Calls Tryz.prog 57 #[.pointer (some ⟨g, 0, none⟩), itemV x ba bc ia ic, .int .i64 (lv : Int)] w (Counts w g (chk x lv i s)) := by
  have E : Hid (chk x lv i s = if 4096 < s + spendP x then none else match chkL x.items (lv + 1) (i + 1) (s + spendP x) with | none => none | some p => if x.kind = 5 ∧ ascP x.items = false then none else some p) := by
    rw [Hid, chk_eq, if_neg (by omega), if_neg (by simp [hp]), if_neg (by simp [hf])]
    rfl
  obtain ⟨hk4, hk6, hlv8, hbl, hi6, hn0, hm2⟩ := frameOk_spec hf
  have hbl0 : (x.bytes.length : Int) ≤ 0 := by omega
  have hlt := hc.lt
  have c0 := hc.cell 0 rfl
  have f0 := hc.frozen 0
  have c00 := (hc.set_ 0 (.int .i64 ((i : Int) + 1))).cell 0 rfl
  have hC1 : Chk (boxed w g ((i : Int) + 1) x ba bc ia ic) g ((i : Int) + 1) s := (hc.set_ 0 _).alloc _
  have hB1 : Blk (boxed w g ((i : Int) + 1) x ba bc ia ic) w.heap.size 26 #[.int .i64 x.kind, .int .u64 x.n, .slice ba x.bytes.length bc, .slice ia x.items.length ic] := by
    have := Blk.new (w.setCell ⟨g, 0, none⟩ (.int .i64 ((i : Int) + 1))) 26 #[.int .i64 x.kind, .int .u64 x.n, .slice ba x.bytes.length bc, .slice ia x.items.length ic]
    rwa [show (w.setCell ⟨g, 0, none⟩ (.int .i64 ((i : Int) + 1))).heap.size = w.heap.size by simp [World.setCell]] at this
  have hG1 : w.grownBy (boxed w g ((i : Int) + 1) x ba bc ia ic) (some g) := grown_alloc (grown_set (grown_refl w (some g)) (.inl rfl) _) _
  have hH1 : Holds (boxed w g ((i : Int) + 1) x ba bc ia ic) H := (hH.setCell hg _).alloc _
  have hxa := hx.arg
  have tests : ((x.kind == 6) = true ∧ (x.kind == 5) = false ∧ (x.kind != 5) = true ∧ (x.kind != 6) = false ∧ (x.items.length : Int) ≤ 1 ∧ 1 ≤ (x.items.length : Int) ∧ Hid (¬ x.kind = 5)) ∨
      ((x.kind == 6) = false ∧ (x.kind != 6) = true ∧ (x.n : Int) ≤ 0 ∧ (x.kind == 5) = true ∧ (x.kind != 5) = false ∧ ((x.items.length : Int) % 2 == 1) = false ∧ Hid (x.kind = 5)) ∨
      ((x.kind == 6) = false ∧ (x.kind != 6) = true ∧ (x.n : Int) ≤ 0 ∧ (x.kind == 5) = false ∧ (x.kind != 5) = true ∧ True ∧ Hid (¬ x.kind = 5)) := by
    rcases (by omega : x.kind = 6 ∨ x.kind = 5 ∨ x.kind = 4) with h | h | h
    · have := hi6 h
      exact .inl ⟨by simp [h], by simp [h], by simp [h], by simp [h], by omega, by omega, by rw [Hid]; omega⟩
    · have := hn0 (by omega)
      have h2 := hm2 h
      exact .inr (.inl ⟨by simp [h], by simp [h], by omega, by simp [h], by simp [h], by simp; omega, h⟩)
    · have := hn0 (by omega)
      exact .inr (.inr ⟨by simp [h], by simp [h], by omega, by simp [h], by simp [h], trivial, by rw [Hid]; omega⟩)
  have HX := Lib.hid hx
  clear hx hf hi6 hn0 hm2 hbl
  have TT := Lib.hid tests
  clear tests
  go_enter Tryz.func57, Tryz.ntmps57
  go_wp2_with fail
  refine (cbor_plain hT hxa _ hH1).mono ?_
  rintro e w2 ⟨rfl, hb2⟩
  have hC2 := hC1.below hb2
  have hB2 := hB1.below hb2
  have hG2 := grown_below hG1 hb2
  have b0 := hB2.cell 0 rfl
  have b1 := hB2.cell 1 rfl
  have b2 := hB2.cell 2 rfl
  have b3 := hB2.cell 3 rfl
  go_upto_region 9 with fail
  go_cut [95] (fun s95 wx => s95 = .bool false ∧ w2 = wx)
  case first =>
    rcases TT.out with ⟨t1, t2, t3, t4, t5, t6, t7⟩ | ⟨t1, t2, t3, t4, t5, t6, t7⟩ | ⟨t1, t2, t3, t4, t5, t6, t7⟩
    all_goals
      go_wp2_with fail
      go_meet
      exact ⟨rfl, rfl⟩
  case rest =>
    obtain ⟨rfl, rfl⟩ := hcut
    go_wp2_with fail
    refine (cbor_spend hxa _ g ((i : Int) + 1) s hC2 (by omega) (by omega) (by omega) (by omega) (by omega)).mono ?_
    rintro e w3 ⟨rfl, hC3, hG3⟩
    have hB3 := hB2.grown hG3 (by simp; omega)
    have d0 := hB3.cell 0 rfl
    have d3 := hB3.cell 3 rfl
    clear b0 b1 b2 b3
    by_cases hle : s + spendP x ≤ 4096
    · have hdec : decide ((s : Int) + (spendP x : Int) ≤ 4096) = true := by simp; omega
      go_wp2_with fail
      have E2 : Hid (chk x lv i s = match chkL x.items (lv + 1) (i + 1) (s + spendP x) with | none => none | some p => if x.kind = 5 ∧ ascP x.items = false then none else some p) := by
        rw [Hid, E.out, if_neg (by omega)]
      have HG3 := Lib.hid (grown_step hG2 hG3 (.inl rfl))
      have hwz : w.heap.size < w3.heap.size := hB3.lt
      have hH3 : Holds w3 H := (hH1.below hb2 (Nat.le_refl _)).grown hG3 (fun g' h => by injection h with h; subst h; exact hg)
      clear hC1 hB1 hG1 hH1 hC2 hB2 hG2 c0 f0 c00 E hdec hb2 hG3
      go_loopw [103] (fun vi wr => ∃ (k : Nat) (p : Nat × Nat), k ≤ x.items.length ∧ vi = .int .i64 k ∧ Hid (chkL (x.items.drop k) (lv + 1) p.1 p.2 = chkL x.items (lv + 1) (i + 1) (s + spendP x)) ∧ p.1 ≤ 256 ∧ p.2 ≤ 4096 ∧ Chk wr g p.1 p.2 ∧ w3.grownBy wr (some g)) (fun vi _ => x.items.length - (intOf vi).toNat)
      case atStart => exact ⟨0, (i + 1, s + spendP x), Nat.zero_le _, rfl, by simp [Hid], by omega, hle, by simpa using hC3, grown_refl _ _⟩
      case round =>
        obtain ⟨k, p, hk, rfl, hdr, hp1, hp2, hCr, hGr⟩ := hrel
        have hHr : Holds wr H := hH3.grown hGr (fun g' h => by injection h with h; subst h; exact hg)
        by_cases hlt : k < x.items.length
        · obtain ⟨ib, io, hia, hel⟩ := HX.out.items (by omega)
          obtain ⟨eba, ebc, eia, eic, q0, q1, q2, q3, hex⟩ := hel.get k hlt
          subst hia
          have hlen : (x.items.length : Int) ≤ 256 := by omega
          have p0 := hHr.cell q0
          have p1 := hHr.cell q1
          have p2 := hHr.cell q2
          have p3 := hHr.cell q3
          have hdrop : x.items.drop k = x.items[k] :: x.items.drop (k + 1) := List.drop_eq_getElem_cons hlt
          have IHH := Lib.hid (ih x.items[k] (cnt_items x k hlt) H _ _ eba _ ebc eia _ eic (wr.alloc (.cells #[.int .i64 x.items[k].kind, .int .u64 x.items[k].n, .slice eba x.items[k].bytes.length ebc, .slice eia x.items[k].items.length eic] 26)) g p.1 p.2 (lv + 1)
            hT hex.arg (hHr.alloc _) hg (hCr.alloc _) hp1 hp2 (by omega))
          have HD := Lib.hid hdrop
          have hlv1 : ((lv + 1 : Nat) : Int) = (lv : Int) + 1 := by omega
          rw [hlv1] at IHH
          clear hdrop q0 q1 q2 q3 hel d0 d3 hlv1
          go_wp2_with fail
          refine IHH.out.mono ?_
          rintro e w4 ⟨rfl, hG4, i4, s4, hC4, heq⟩
          have hG5 := grown_step (grown_alloc hGr (.cells #[.int .i64 x.items[k].kind, .int .u64 x.items[k].n, .slice eba x.items[k].bytes.length ebc, .slice eia x.items[k].items.length eic] 26)) hG4 (.inl rfl)
          cases hq : chk x.items[k] (lv + 1) p.1 p.2 with
          | none =>
            have e0 : Hid (chk x lv i s = none) := by
              rw [Hid, E2.out, ← hdr.out, HD.out, chkL, hq]
            have R := Lib.hid (And.intro (grown_step HG3.out hG5 (.inl rfl)) hC4)
            clear hq heq p0 p1 p2 p3 IHH hCr hGr hG4 hG5 hC4
            go_wp2_with fail
            go_ret
            exact ⟨by rw [e0.out]; rfl, R.out.1, _, _, R.out.2, by rw [e0.out]; intro p hp; cases hp⟩
          | some p' =>
            obtain ⟨rfl, rfl⟩ := heq p' hq
            obtain ⟨_, _, hp3, hp4⟩ := chk_spec _ _ _ _ _ hq
            have hn : Hid (chkL (x.items.drop (k + 1)) (lv + 1) p'.1 p'.2 = chkL x.items (lv + 1) (i + 1) (s + spendP x)) := by
              rw [Hid, ← hdr.out, HD.out, chkL, hq]
            clear hq heq p0 p1 p2 p3 IHH hCr hGr hG4 HD hdr
            go_wp2_with fail
            go_roundw
            case rel => exact ⟨k + 1, p', by omega, by go_num, hn, hp3, hp4, hC4, hG5⟩
            case measure => simp [intOf]; omega
        · have hkl : k = x.items.length := by omega
          subst hkl
          have hfin : Hid (chkL x.items (lv + 1) (i + 1) (s + spendP x) = some p) := by
            rw [Hid, ← hdr.out, List.drop_length, chkL]
          have hBr := hB3.grown hGr (by simp; omega)
          have d0 := hBr.cell 0 rfl
          have d3 := hBr.cell 3 rfl
          have hGG := Lib.hid (grown_step HG3.out hGr (.inl rfl))
          clear hdr
          rcases TT.out with ⟨t1, t2, t3, t4, t5, t6, t7⟩ | ⟨t1, t2, t3, t4, t5, t6, t7⟩ | ⟨t1, t2, t3, t4, t5, t6, t7⟩
          · clear t1 t2 t4 t5 t6
            go_wp2_with fail
            go_ret
            have e0 : chk x lv i s = some p := by
              rw [E2.out, hfin.out]
              simp only [if_neg (fun h : x.kind = 5 ∧ _ => t7.out h.1)]
            exact ⟨by rw [e0]; rfl, hGG.out, _, _, hCr, by rw [e0]; intro p' hp'; injection hp' with hp'; subst hp'; exact ⟨rfl, rfl⟩⟩
          · clear t1 t2 t3 t4 t6
            obtain ⟨hK, hPe, _, hp4⟩ := chkL_spec _ _ _ _ _ hfin.out h1 hle
            have hen : (encL x.items).length ≤ 4096 := by rw [hPe] at hp4; simp only at hp4; omega
            have hlen : ∀ k (h : k < x.items.length), (encB x.items[k]).length ≤ 1099511627776 := by
              intro k hk
              have a1 := encL_take_succ x.items k hk
              have a2 := encL_take_le x.items (k + 1)
              rw [a1] at a2
              simp only [List.length_append] at a2
              omega
            have hAA : ∃ b off, 0 < x.items.length → ia = some ⟨b, off, none⟩ ∧ IsElems H b off x.items := by
              by_cases h0 : 0 < x.items.length
              · obtain ⟨ib, io, hia, hel⟩ := HX.out.items h0
                exact ⟨ib, io, fun _ => ⟨hia, hel⟩⟩
              · exact ⟨0, 0, fun h => absurd h h0⟩
            obtain ⟨ib, io, hA⟩ := hAA
            have ASC := Lib.hid (cbor_ascending x.items ib io ia ic wr hA hHr hK hlen x.items.length rfl (by omega))
            clear hA hlen hen hPe hp4 hK
            go_wp2_with fail
            refine ASC.out.mono ?_
            rintro e w5 ⟨rfl, hb5⟩
            have R := Lib.hid (And.intro (grown_below hGG.out hb5) (hCr.below hb5))
            cases hasc : ascP x.items with
            | true =>
              have e0 : Hid (chk x lv i s = some p) := by
                rw [Hid, E2.out, hfin.out]
                simp only [hasc, Bool.true_eq_false, and_false, if_false]
              clear ASC hasc
              go_wp2_with fail
              go_ret
              exact ⟨by rw [e0.out]; rfl, R.out.1, _, _, R.out.2, by rw [e0.out]; intro p' hp'; injection hp' with hp'; subst hp'; exact ⟨rfl, rfl⟩⟩
            | false =>
              have e0 : Hid (chk x lv i s = none) := by
                rw [Hid, E2.out, hfin.out]
                simp only [hasc, t7.out, and_self, if_true]
              clear ASC hasc
              go_wp2_with fail
              go_ret
              exact ⟨by rw [e0.out]; rfl, R.out.1, _, _, R.out.2, by rw [e0.out]; intro p' hp'; cases hp'⟩
          · clear t1 t2 t3 t4
            go_wp2_with fail
            go_ret
            have e0 : chk x lv i s = some p := by
              rw [E2.out, hfin.out]
              simp only [if_neg (fun h : x.kind = 5 ∧ _ => t7.out h.1)]
            exact ⟨by rw [e0]; rfl, hGG.out, _, _, hCr, by rw [e0]; intro p' hp'; injection hp' with hp'; subst hp'; exact ⟨rfl, rfl⟩⟩
    · have hdec : decide ((s : Int) + (spendP x : Int) ≤ 4096) = false := by simp; omega
      have R := Lib.hid (And.intro (grown_step hG2 hG3 (.inl rfl)) hC3)
      clear hC1 hB1 hG1 hH1 hC2 hB2 hG2 hC3 hG3 hB3 d0 d3 c0 f0 c00
      go_wp2_with fail
      go_ret
      have e0 : chk x lv i s = none := by rw [E.out, if_pos (by omega)]
      exact ⟨by rw [e0]; rfl, R.out.1, _, _, R.out.2, by rw [e0]; intro p hp; cases hp⟩
end Go.Proofs.YtebcnkelbicbnaaGreatDoor
namespace Go.Proofs.YtebcnkelbicbnaaGreatDoor
open Go.RowKit

theorem ItemA.eqs {H : Snap} {k n : Int} {ba : Option Addr} {bl bc : Nat} {ia : Option Addr} {il ic : Nat} {x : Itm} (h : ItemA H k n ba bl bc ia il ic x) : k = x.kind ∧ n = (x.n : Int) ∧ bl = x.bytes.length ∧ il = x.items.length ∧ IsItem H ba bc ia ic x := ⟨h.1, h.2, h.3, h.4, h.5⟩

theorem cbor_item (x : Itm) : ItemSaid x := by
  have main : ∀ N, ∀ x : Itm, cnt x ≤ N → ItemSaid x := by
    intro N
    induction N with
    | zero =>
      intro x hx
      have : 0 < cnt x := by cases x; rw [cnt]; omega
      omega
    | succ N ih =>
      intro x hx H k n ba bl bc ia il ic w g i s lv hT ha hH hg hc hi hs hlv
      obtain ⟨rfl, rfl, rfl, rfl, hxi⟩ := ha.eqs
      by_cases h0 : 256 < i + 1 ∨ 4096 < x.bytes.length ∨ 256 < x.items.length
      · exact item_many x i s lv h0 hxi w g hc hi
      · by_cases hp : isPlain x = true
        · exact item_plain x i s lv (by omega) (by omega) (by omega) hp hT hxi w hH g hg hc hs
        · have hp' : isPlain x = false := by simpa using hp
          by_cases hf : frameOk x lv = true
          · exact item_more x (fun y hy => ih y (by omega)) i s lv (by omega) (by omega) (by omega) hp' hf hT hxi w hH g hg hc hs
          · exact item_frame x i s lv (by omega) (by omega) (by omega) hp' (by simpa using hf) hT hxi w hH g hg hc hs hlv
  exact main _ x (Nat.le_refl _)

set_option maxRecDepth 100000 in
set_option maxHeartbeats 1600000 in
theorem cbor_Valid {H : Snap} (hT : Tabs H) {k n : Int} {ba : Option Addr} {bl bc : Nat} {ia : Option Addr} {il ic : Nat} {x : Itm} (hx : ItemA H k n ba bl bc ia il ic x) (w : World) (hH : Holds w H) :
    Calls Tryz.prog 40 #[.agg #[.int .i64 k, .int .u64 n, .slice ba bl bc, .slice ia il ic]] w fun e w' => e = .returned (.bool (validP x)) ∧ Below w.heap.size w w' := by
  have W1 := fun w1 : World => fun h1 : Holds w1 H => fun hg => fun hc => (cbor_item x) H k n ba bl bc ia il ic w1 (w.heap.size + 1) 0 0 0 hT hx h1 hg hc (by omega) (by omega) (by omega)
  have hH2 := (hH.alloc (.cells #[.int .i64 k, .int .u64 n, .slice ba bl bc, .slice ia il ic] 26))
  have hg2 : H (w.heap.size + 1) = none := hH.none_of_ge (by omega)
  have hC := Blk.new (w.alloc (.cells #[.int .i64 k, .int .u64 n, .slice ba bl bc, .slice ia il ic] 26)) 87 #[.int .i64 0, .int .i64 0]
  rw [show (w.alloc (.cells #[.int .i64 k, .int .u64 n, .slice ba bl bc, .slice ia il ic] 26)).heap.size = w.heap.size + 1 by simp] at hC
  have I := Lib.hid (W1 _ (hH2.alloc (.cells #[.int .i64 0, .int .i64 0] 87)) hg2 hC)
  have B2 := Lib.hid ((below_box w (.cells #[.int .i64 k, .int .u64 n, .slice ba bl bc, .slice ia il ic] 26)).alloc (by simp) (.cells #[.int .i64 0, .int .i64 0] 87))
  clear W1 hH2 hg2 hC hx
  go_enter Tryz.func40, Tryz.ntmps40
  go_wp2_with fail
  refine I.out.mono ?_
  rintro e w2 ⟨rfl, hG, _⟩
  go_wp2_with fail
  go_ret
  exact ⟨rfl, below_of_grown B2.out hG (by simp)⟩

/-- What Encode answers. -/
def EncSaid (w : World) (x : Itm) (e : Ending) (w' : World) : Prop :=
  (validP x = false ∧ e = .returned (.tuple #[.slice none 0 0, .int .i64 1]) ∧ Below w.heap.size w w') ∨
  (validP x = true ∧ ∃ r, e = .returned (.tuple #[r, .int .i64 0]) ∧ Fresh w (encB x) r w')

set_option maxRecDepth 100000 in
set_option maxHeartbeats 1600000 in
theorem cbor_Encode {H : Snap} (hT : Tabs H) {k n : Int} {ba : Option Addr} {bl bc : Nat} {ia : Option Addr} {il ic : Nat} {x : Itm} (hx : ItemA H k n ba bl bc ia il ic x) (w : World) (hH : Holds w H) :
    Calls Tryz.prog 51 #[.agg #[.int .i64 k, .int .u64 n, .slice ba bl bc, .slice ia il ic]] w (EncSaid w x) := by
  have hH1 := (hH.alloc (.cells #[.int .i64 k, .int .u64 n, .slice ba bl bc, .slice ia il ic] 26))
  have hb1 := below_box w (.cells #[.int .i64 k, .int .u64 n, .slice ba bl bc, .slice ia il ic] 26)
  have hB1 := Blk.new w 26 #[.int .i64 k, .int .u64 n, .slice ba bl bc, .slice ia il ic]
  have V := Lib.hid (cbor_Valid hT hx _ hH1)
  go_enter Tryz.func51, Tryz.ntmps51
  go_wp2_with fail
  refine V.out.mono ?_
  rintro e w2 ⟨rfl, hb2⟩
  have hB2 := hB1.below hb2
  have b0 := hB2.cell 0 rfl
  have b1 := hB2.cell 1 rfl
  have b2 := hB2.cell 2 rfl
  have b3 := hB2.cell 3 rfl
  have hH2 := hH1.below hb2 (Nat.le_refl _)
  have hb := hb1.trans (hb2.mono hb1.size)
  cases hv : validP x with
  | false =>
    have hv' := Lib.hid hv
    clear hv
    go_wp2_with fail
    go_ret2
    exact .inl ⟨hv'.out, rfl, hb⟩
  | true =>
    obtain ⟨hk, _, hl⟩ := validP_spec hv
    have A := Lib.hid (cbor_add x H k n ba bl bc ia il ic w2 w2.heap.size (.slice none 0 0) [] hk hx hH2 (OwnB.nil _ _) (Nat.le_refl _) (by simp [Value.ownBlock]) (by simp; omega))
    have hv' := Lib.hid hv
    clear hv hl
    go_wp2_with fail
    refine A.out.mono ?_
    rintro e w3 ⟨r, rfl, hown, hg, _⟩
    go_wp2_with fail
    go_ret2
    refine .inr ⟨hv'.out, _, rfl, ?_, ?_⟩
    · simpa [OwnB] using hown.more (base' := w.heap.size) hb.size
    · exact hb.trans ((grown_none (by simpa [Value.ownBlock] using hg)).mono hb.size)
end Go.Proofs.YtebcnkelbicbnaaGreatDoor
namespace Go.Proofs.YtebcnkelbicbnaaGreatDoor
open Go.RowKit

theorem Snap.with_ne (H : Snap) {g b : Nat} (o : Obj) (h : b ≠ g) : (H.with g o) b = H b := by simp [Snap.with, h]
theorem wpList_make_items {w : World} {ops : Array Oper} {rest : List Oper} {o : Oper} {a : Act} {Q : Exit → Act → World → Prop}
    (hg : o.guard = none) (l c : Operand) (hop : o.op = Op.makeSlice 24 l c)
    (kl kc : IntKind) (L C : Int) (n : Nat) (hl : a.eval l = .int kl L) (hc : a.eval c = .int kc C) (hL : L = (n : Int)) (hC : C = (n : Int)) (b2 : n ≤ 1099511627776) (g : Nat) (hgz : w.heap.size = g)
    (hK : ∀ w' cs, Blk w' g 26 cs → cs.size = n * 4 → Below w.heap.size w w' → wpList Tryz.prog ops Q rest (a.put o.dst (.slice (some ⟨g, 0, none⟩) n n)) w') :
    wpList Tryz.prog ops Q (o :: rest) a w := by
  subst hgz
  obtain ⟨i0, hi0, hz0, hz1, hz2⟩ := info_parts info_item
  refine wpList_make_full w hg l c _ hop w.heap.size 26 i0 _ 4 Tryz.underlying24 hi0 hz0 hz1 kl kc L C n hl hc hL hC (by rw [hz2]; omega) (by simp only [maxLen]; omega) (Nat.le_refl _) fun w' h1 h2 => ?_
  rcases h1.2 with ⟨hv, _⟩ | ⟨g, cap, cur, hv, _, hg, _, _, hs, _⟩
  · cases hv
  · cases hv
    exact hK w' cur hg hs (grown_none h2)

def CopiedSaid (x : Itm) : Prop := ∀ (H : Snap) (k n : Int) (ba : Option Addr) (bl bc : Nat) (ia : Option Addr) (il ic : Nat) (w : World),
  Modest x → ItemA H k n ba bl bc ia il ic x → Holds w H →
  Calls Tryz.prog 66 #[.agg #[.int .i64 k, .int .u64 n, .slice ba bl bc, .slice ia il ic]] w fun e w' => ∃ v, e = .returned v ∧ Gives w H x v w'

set_option maxRecDepth 100000 in
set_option maxHeartbeats 3200000 in
theorem copied_step (x : Itm) (ih : ∀ y : Itm, cnt y < cnt x → CopiedSaid y) : CopiedSaid x := by
  intro H k n ba bl bc ia il ic w hm hx hH
  obtain ⟨rfl, rfl, rfl, rfl, hxi⟩ := hx.eqs
  obtain ⟨hm1, hm2, hm3⟩ := hm.parts
  have HX := Lib.hid hxi
  have hbounds := Lib.hid hxi.bounds
  have C := Lib.hid (bytes_Clone ((w.alloc (.cells #[.int .i64 x.kind, .int .u64 x.n, .slice ba x.bytes.length bc, .slice ia x.items.length ic] 26)).alloc (.cells #[.int .i64 0, .int .u64 0, .slice none 0 0, .slice none 0 0] 26)) ba x.bytes x.bytes.length bc rfl hm1 (((Src.of_row hxi.bytes.row hH).alloc _).alloc _))
  have hB1 := (Blk.new w 26 #[.int .i64 x.kind, .int .u64 x.n, .slice ba x.bytes.length bc, .slice ia x.items.length ic]).alloc (.cells #[.int .i64 0, .int .u64 0, .slice none 0 0, .slice none 0 0] 26)
  have hB2 := Blk.new (w.alloc (.cells #[.int .i64 x.kind, .int .u64 x.n, .slice ba x.bytes.length bc, .slice ia x.items.length ic] 26)) 26 #[.int .i64 0, .int .u64 0, .slice none 0 0, .slice none 0 0]
  rw [show (w.alloc (.cells #[.int .i64 x.kind, .int .u64 x.n, .slice ba x.bytes.length bc, .slice ia x.items.length ic] 26)).heap.size = w.heap.size + 1 by simp] at hB2
  clear hx hm hxi hm1
  go_enter Tryz.func66, Tryz.ntmps66
  go_wp2_with fail
  refine C.out.mono ?_
  rintro e w1 ⟨r, rfl, hf⟩
  obtain ⟨A', c', rfl, _⟩ := hf.own.form
  obtain ⟨H1, hG1, hbs, _⟩ := hf.snapB ((hH.alloc _).alloc _)
  have hb1n : H1 w.heap.size = none := hG1.none (hH.none_of_ge (Nat.le_refl _)) (by simp; omega)
  have hb2n : H1 (w.heap.size + 1) = none := hG1.none (hH.none_of_ge (by omega)) (by simp)
  have hG1 := (((Grows.refl hH).alloc _).alloc _).trans hG1
  have hB1 := hB1.below hf.2
  have hB2 := hB2.below hf.2
  have b2 := hB1.cell 2 rfl
  have f2 := hB1.frozen 2
  have hB1 := hB1.set_ 2 (.slice A' x.bytes.length c')
  have b3 := hB1.cell 3 rfl
  have hw1 : w.heap.size + 2 ≤ w1.heap.size := by have := hf.2.size; simp at this; omega
  go_wp2_with (at_make; refine stop_in ?_)
  unfold Stopped
  refine wpList_make_items rfl _ _ rfl .i64 .i64 _ _ x.items.length rfl rfl rfl rfl hm2 w1.heap.size (by simp [World.setCell]) fun w2 cs hcs hcz hb2 => ?_
  have hgn : H1 w1.heap.size = none := hG1.hidden (Nat.le_refl _)
  have hG2 : Grows w H w2 H1 := (hG1.setOwn hb1n (Nat.le_refl _) 2 (.slice A' x.bytes.length c')).below_ hb2
  have hB2 := (hB2.far (p := ⟨w.heap.size, 2, none⟩) (by simp) (.slice A' x.bytes.length c')).below hb2
  have hB1 := hB1.below hb2
  have hw2 : w1.heap.size < w2.heap.size := hcs.lt
  have c3 := hB1.cell 3 rfl
  have HG2 := Lib.hid hG2
  have hle1 := hG1.le
  clear hf C b2 f2 b3 hb2
  go_upto_region 4 with fail
  go_loopw [17] (fun vi wr => ∃ (k : Nat) (Hr : Snap) (cr : Array Value) (pre : List Value), k ≤ x.items.length ∧ vi = .int .i64 k ∧ Grows w H wr Hr ∧ H1.le Hr ∧ Hr w.heap.size = none ∧ Hr (w.heap.size + 1) = none ∧ Hr w1.heap.size = none ∧
    Blk wr w.heap.size 26 #[.int .i64 x.kind, .int .u64 x.n, .slice A' x.bytes.length c', .slice ia x.items.length ic] ∧ Blk wr (w.heap.size + 1) 26 #[.int .i64 0, .int .u64 0, .slice none 0 0, .slice none 0 0] ∧
    Blk wr w1.heap.size 26 cr ∧ cr.size = x.items.length * 4 ∧ ItemsC Hr pre (x.items.take k) ∧ cr.toList.take (k * 4) = pre) (fun vi _ => x.items.length - (intOf vi).toNat)
  case atStart => exact ⟨0, H1, cs, [], Nat.zero_le _, rfl, HG2.out, Snap.le.refl _, hb1n, hb2n, hgn, hB1, hB2, hcs, hcz, by simp [ItemsC], by simp⟩
  case round =>
    obtain ⟨k, Hr, cr, pre, hk, rfl, hGr, hlr, hn1, hn2, hng, hC1, hC2, hCg, hcrz, hpre, hcp⟩ := hrel
    by_cases hlt : k < x.items.length
    · obtain ⟨ib, io, hia, hel⟩ := HX.out.items (by omega)
      obtain ⟨eba, ebc, eia, eic, q0, q1, q2, q3, hex⟩ := hel.get k hlt
      subst hia
      have hHw := hGr.holds.mono hGr.le
      have p0 := hHw.cell q0
      have p1 := hHw.cell q1
      have p2 := hHw.cell q2
      have p3 := hHw.cell q3
      have IH := Lib.hid (ih x.items[k] (cnt_items x k hlt) Hr _ _ eba _ ebc eia _ eic (wr.alloc (.cells #[.int .i64 x.items[k].kind, .int .u64 x.items[k].n, .slice eba x.items[k].bytes.length ebc, .slice eia x.items[k].items.length eic] 26)) (hm3.get k hlt) (hex.mono hGr.le).arg (hGr.holds.alloc _))
      clear q0 q1 q2 q3 hel hex hHw
      go_wp2_with fail
      refine IH.out.mono ?_
      rintro e w3 ⟨v, rfl, rba, rbc, ria, ric, Hs, rfl, hG3, his⟩
      have hG4 := (hGr.alloc (.cells #[.int .i64 x.items[k].kind, .int .u64 x.items[k].n, .slice eba x.items[k].bytes.length ebc, .slice eia x.items[k].items.length eic] 26)).trans hG3
      have hD1 := (hC1.alloc (.cells #[.int .i64 x.items[k].kind, .int .u64 x.items[k].n, .slice eba x.items[k].bytes.length ebc, .slice eia x.items[k].items.length eic] 26)).below hG3.below
      have hD2 := (hC2.alloc (.cells #[.int .i64 x.items[k].kind, .int .u64 x.items[k].n, .slice eba x.items[k].bytes.length ebc, .slice eia x.items[k].items.length eic] 26)).below hG3.below
      have hDg := (hCg.alloc (.cells #[.int .i64 x.items[k].kind, .int .u64 x.items[k].n, .slice eba x.items[k].bytes.length ebc, .slice eia x.items[k].items.length eic] 26)).below hG3.below
      have hm1' := hG3.none hn1 (by have := hC1.lt; simp; omega)
      have hm2' := hG3.none hn2 (by have := hC2.lt; simp; omega)
      have hmg' := hG3.none hng (by have := hCg.lt; simp; omega)
      have hpre2 : ItemsC Hs (pre ++ itemC x.items[k] rba rbc ria ric) (x.items.take (k + 1)) := by
        rw [List.take_succ_eq_append_getElem hlt]
        exact (hpre.mono hG3.le).app (ItemsC.one his)
      have hlr2 := hlr.trans hG3.le
      have HCP := Lib.hid hcp
      clear p0 p1 p2 p3 IH hC1 hC2 hCg hpre hGr hG3 hcp
      go_wp2_with (with_reducible refine stop_store ?_)
      unfold Stopped
      refine wpList_store_blk rfl _ _ _ rfl rfl w1.heap.size (k * 4) _ rfl rfl _ _ hDg size_item (by show k * 4 + 4 ≤ cr.size; omega) (one4 _ _ _ _ rfl rfl rfl rfl) fun w4 hDg4 hg4 => ?_
      have hG5 := hG4.grownOwn hmg' (by omega) hg4
      have hD1 := hD1.grown hg4 (by simp; omega)
      have hD2 := hD2.grown hg4 (by simp; omega)
      have hsz : (putC cr (k * 4) (itemC x.items[k] rba rbc ria ric)).size = x.items.length * 4 := by rw [putC_size]; exact hcrz
      have htk : (putC cr (k * 4) (itemC x.items[k] rba rbc ria ric)).toList.take ((k + 1) * 4) = pre ++ itemC x.items[k] rba rbc ria ric := by
        rw [show (k + 1) * 4 = k * 4 + (itemC x.items[k] rba rbc ria ric).length by simp [itemC]; omega, putC_take _ _ _ (by simp [itemC]; omega), HCP.out]
      have HTK := Lib.hid htk
      clear htk hG4 hDg
      go_wp2_with fail
      go_roundw
      case rel => exact ⟨k + 1, Hs, _, _, by omega, by go_num, hG5, hlr2, hm1', hm2', hmg', hD1, hD2, hDg4, hsz, hpre2, HTK.out⟩
      case measure => simp [intOf]; omega
    · have hkl : k = x.items.length := by omega
      subst hkl
      rw [List.take_length] at hpre
      have HCP := Lib.hid hcp
      clear hcp
      have hF := hGr.withOwn hng (by omega) hCg
      have hK := hlr.trans (Snap.le_with hng (o := .cells cr 26 (0, 0)))
      have hn2' : (Hr.with w1.heap.size (.cells cr 26 (0, 0))) (w.heap.size + 1) = none := by rw [Snap.with_ne _ _ (by omega)]; exact hn2
      have hn1' : (Hr.with w1.heap.size (.cells cr 26 (0, 0))) w.heap.size = none := by rw [Snap.with_ne _ _ (by omega)]; exact hn1
      have helems : IsElems (Hr.with w1.heap.size (.cells cr 26 (0, 0))) w1.heap.size 0 x.items :=
        (hpre.mono (Snap.le_with hng)).elems (Blk.cellsAt _ rfl pre (by rw [hpre.len]; exact HCP.out))
      have hbs' := hbs.mono hK
      have hsz : w.heap.size < wr.heap.size := hC1.lt
      clear hCg
      go_wp2_with (with_reducible refine stop_store ?_)
      unfold Stopped
      refine wpList_store_cell rfl _ _ _ rfl rfl w.heap.size 3 _ rfl rfl _ _ hC1 size_items (by simp) rfl fun w4 hE1 hg4 => ?_
      have hE2 := hC2.grown hg4 (by simp)
      have hGE := hF.grownOwn hn1' (Nat.le_refl _) hg4
      clear hC1 hC2
      by_cases h0 : x.items.length = 0
      · have hitem : IsItem (Hr.with w1.heap.size (.cells cr 26 (0, 0))) A' c' none 0 x := by
          obtain ⟨z1, z2, z3, _⟩ := hbounds.out
          cases x
          rw [IsItem]
          exact ⟨⟨z1, z2, z3, Nat.le_of_eq h0, by omega⟩, hbs', fun h => absurd h (by simp [Itm.items] at h0; simp [h0])⟩
        have HI := Lib.hid hitem
        have h00 : (x.items.length : Int) = 0 := by omega
        have H00 := Lib.hid h0
        clear h0 hitem
        go_wp2_with (with_reducible refine stop_store ?_)
        unfold Stopped
        refine wpList_store_cell rfl _ _ _ rfl rfl w.heap.size 3 _ rfl rfl _ _ hE1 size_items (by simp) rfl fun w5 hF1 hg5 => ?_
        have hF2 := hE2.grown hg5 (by simp)
        have hGE := hGE.grownOwn hn1' (Nat.le_refl _) hg5
        have i0 := hF1.cell 0 rfl
        have i1 := hF1.cell 1 rfl
        have i2 := hF1.cell 2 rfl
        have i3 := hF1.cell 3 rfl
        go_wp2_with (with_reducible refine stop_store ?_)
        unfold Stopped
        refine wpList_store_item rfl _ _ _ rfl rfl _ _ rfl rfl _ _ hF2 size_item rfl (one4 _ _ _ _ rfl rfl rfl rfl) fun w6 hJ2 hg6 => ?_
        go_wp2_with fail
        refine ret_row rfl rfl hJ2 rfl rfl size_item rfl ?_
        exact ⟨_, rfl, A', c', none, 0, _, by simp [itemV, H00.out], hGE.grownOwn hn2' (by omega) hg6, HI.out⟩
      · have hitem : IsItem (Hr.with w1.heap.size (.cells cr 26 (0, 0))) A' c' (some ⟨w1.heap.size, 0, none⟩) x.items.length x := by
          obtain ⟨z1, z2, z3, z4, z5, z6, z7⟩ := hbounds.out
          cases x
          rw [IsItem]
          exact ⟨⟨z1, z2, z3, Nat.le_refl _, by simp only [Itm.items] at z6 ⊢; omega⟩, hbs', fun h => ⟨_, _, rfl, helems⟩⟩
        have HI := Lib.hid hitem
        have h00 : ((x.items.length : Int) == 0) = false := by rw [beq_eq_false_iff_ne]; omega
        clear h0 hitem
        have i0 := hE1.cell 0 rfl
        have i1 := hE1.cell 1 rfl
        have i2 := hE1.cell 2 rfl
        have i3 := hE1.cell 3 rfl
        go_wp2_with (with_reducible refine stop_store ?_)
        unfold Stopped
        refine wpList_store_item rfl _ _ _ rfl rfl _ _ rfl rfl _ _ hE2 size_item rfl (one4 _ _ _ _ rfl rfl rfl rfl) fun w6 hJ2 hg6 => ?_
        go_wp2_with fail
        refine ret_row rfl rfl hJ2 rfl rfl size_item rfl ?_
        exact ⟨_, rfl, A', c', _, _, _, rfl, hGE.grownOwn hn2' (by omega) hg6, HI.out⟩

theorem cbor_copied (x : Itm) : CopiedSaid x := by
  have main : ∀ N, ∀ x : Itm, cnt x ≤ N → CopiedSaid x := by
    intro N
    induction N with
    | zero =>
      intro x hx
      have : 0 < cnt x := by cases x; rw [cnt]; omega
      omega
    | succ N ih => exact fun x hx => copied_step x fun y hy => ih y (by omega)
  exact main _ x (Nat.le_refl _)
end Go.Proofs.YtebcnkelbicbnaaGreatDoor
namespace Go.Proofs.YtebcnkelbicbnaaGreatDoor
open Go.RowKit

theorem OwnI.lit {w : World} {H : Snap} {l : List Itm} {cs : List Value} (h : ItemsC H cs l) (base : Nat) (hb : base ≤ w.heap.size) (hm : l.length ≤ 4096) :
    OwnI (w.alloc (.cells cs.toArray 26)) base (.slice (some ⟨w.heap.size, 0, none⟩) l.length l.length) H l := by
  refine ⟨cs, h, h.len, .inr ⟨w.heap.size, l.length, cs.toArray, rfl, hb, heap_alloc_new w _, Nat.le_refl _, by simp only [maxLen]; omega, ?_, ?_⟩⟩
  · simpa using h.len
  · rw [← h.len]; simp

end Go.Proofs.YtebcnkelbicbnaaGreatDoor
namespace Go.Proofs.YtebcnkelbicbnaaGreatDoor
open Go.RowKit

/-- A slice of items. -/
structure IsRowI (H : Snap) (A : Option Addr) (c : Nat) (l : List Itm) : Prop where
  le : l.length ≤ c
  max : c ≤ 9223372036854775807
  elems : 0 < l.length → ∃ b off, A = some ⟨b, off, none⟩ ∧ IsElems H b off l
theorem IsRowI.item {H : Snap} {A : Option Addr} {c : Nat} {l : List Itm} (h : IsRowI H A c l) (k : Int) (hk : 0 ≤ k ∧ k ≤ 8) (n : Nat) (hn : n < 18446744073709551616) : IsItem H none 0 A c (.mk k n [] l) := by
  rw [IsItem]
  exact ⟨⟨by omega, by omega, hn, h.le, h.max⟩, IsBytes.nil _, h.elems⟩
end Go.Proofs.YtebcnkelbicbnaaGreatDoor
namespace Go.Proofs.YtebcnkelbicbnaaGreatDoor
open Go.RowKit

theorem lit_items_own {w wr : World} {H Hr : Snap} (_h : Grows w H wr Hr) {l : List Itm} {cs : List Value} (hc : ItemsC Hr cs l) (hm : l.length ≤ 4096) :
    OwnI (wr.alloc (.cells cs.toArray 26)) wr.heap.size (.slice (some ⟨wr.heap.size, 0, none⟩) l.length l.length) Hr l := OwnI.lit hc _ (Nat.le_refl _) hm
/-- A row of items that was just made, as data. -/
theorem lit_items {w wr : World} {H Hr : Snap} (h : Grows w H wr Hr) {l : List Itm} {cs : List Value} (hc : ItemsC Hr cs l) (hm : l.length ≤ 4096) :
    ∃ H', Grows w H (wr.alloc (.cells cs.toArray 26)) H' ∧ Hr.le H' ∧ IsRowI H' (some ⟨wr.heap.size, 0, none⟩) l.length l := by
  have hO := lit_items_own h hc hm
  have hG := h.alloc (.cells cs.toArray 26)
  obtain ⟨H', hl, hh, hf, hz, h1, h2, h3⟩ := hO.snap hG.holds (fun q hq => by cases hq; exact h.holds.none_of_ge (Nat.le_refl _))
  refine ⟨H', ⟨hG.below, hG.le.trans hl, hh, fun b o hb => ?_⟩, hl, ⟨h1, h2, h3⟩⟩
  rcases hf b o hb with h4 | h4
  · exact hG.fresh b o h4
  · simp at h4; exact .inr (by have := h.size; omega)

theorem map_err {p : List UInt8 → Nat → PR} (hp : ∀ b c q, p b c = .err q → q ≠ 0) : ∀ (n : Nat) (b : List UInt8) (c : Nat) (last : Option (List UInt8)) (q : Nat), mapP p n b c last = .err q → q ≠ 0
  | 0, b, c, last, q, h => by rw [mapP] at h; cases h
  | n + 1, b, c, last, q, h => by
    rw [mapP] at h
    split at h
    · rename_i h1
      injection h with h
      subst h
      exact hp _ _ _ h1
    · split at h
      · rename_i h2
        injection h with h
        subst h
        unfold keyP at h2
        repeat' split at h2
        all_goals first | (injection h2 with h2; omega) | cases h2
      · split at h
        · rename_i h3
          injection h with h
          subst h
          exact hp _ _ _ h3
        · split at h
          · rename_i h4
            injection h with h
            subst h
            exact map_err hp n _ _ _ _ h4
          · cases h
theorem arr_err {p : List UInt8 → Nat → PR} (hp : ∀ b c q, p b c = .err q → q ≠ 0) : ∀ (n : Nat) (b : List UInt8) (c : Nat) (q : Nat), arrP p n b c = .err q → q ≠ 0
  | 0, b, c, q, h => by rw [arrP] at h; cases h
  | n + 1, b, c, q, h => by
    rw [arrP] at h
    split at h
    · rename_i h1
      injection h with h
      subst h
      exact hp _ _ _ h1
    · split at h
      · rename_i h4
        injection h with h
        subst h
        exact arr_err hp n _ _ _ h4
      · cases h
theorem parse_err : ∀ (d : Nat) (b : List UInt8) (c q : Nat), parse d b c = .err q → q ≠ 0 := by
  intro d
  induction d with
  | zero =>
    intro b c q h
    rw [parse.eq_def] at h
    simp only at h
    repeat' split at h
    all_goals first
      | (injection h with h; omega)
      | cases h
      | skip
    · rename_i h1; have := headP_err h1; omega
    · rename_i h1; have := sevenP_err h1; omega
  | succ d ih =>
    intro b c q h
    rw [parse.eq_def] at h
    simp only at h
    repeat' split at h
    all_goals first
      | (injection h with h; omega)
      | cases h
      | skip
    · rename_i h1; have := headP_err h1; omega
    · rename_i h1; have := sevenP_err h1; omega
    · rename_i h1; exact ih _ _ _ h1
    · rename_i h1; exact map_err ih _ _ _ _ _ h1
    · rename_i h1; exact arr_err ih _ _ _ _ h1
section
variable {d : Nat} {w : World} {H : Snap} {g : Nat} {A : Option Addr} {c : Nat} {l : List UInt8} {p cnt lv : Nat}
set_option maxRecDepth 100000 in
set_option maxHeartbeats 6400000 in
theorem p_item_6 (ih : PItem d) (hTab : Tabs H) (hlv : lv + (d + 1) = 8) (hP : Psr 109 w g H A c l p cnt) (hc : cnt < 256) {f n k : Nat} (hh : headP (l.drop p) = .ok (f, n, k)) (hk : f / 32 = 6) : Calls Tryz.prog 79 #[.pointer (some ⟨g, 0, none⟩), .int .i64 (lv : Int)] w (ItemOut 109 w H g A c l p (parse (d + 1) (l.drop p) cnt)) := by
  have hgl := hP.gt
  have hd0 := (Rdg.refl hP).alloc zeroO
  have hT0 := Blk.new w 26 #[.int .i64 0, .int .u64 0, .slice none 0 0, .slice none 0 0]
  have hn0 : H w.heap.size = none := hP.holds.none_of_ge (Nat.le_refl _)
  have c2 := hd0.psr.blk.cell 2 rfl

  have E0 := Lib.hid (parse_tag d (l.drop p) cnt (by omega) hh hk)
  have S : (f : Int) / 32 = 6 := by omega
  have hlv1 : ¬ ((8 : Int) ≤ (lv : Int)) := by omega
  have KL : IntKind.i64.wrap ((lv : Int) + 1) = (lv : Int) + 1 := IntWalk.i64_in _ (by omega)
  have hlvi : (lv : Int) ≤ 8 := by omega

  have hc256 : ((cnt : Int) == 256) = false := by simp; omega
  have hc256' : ((cnt : Int) = 256) = False := eq_false (by omega)
  have KC : IntKind.i64.wrap ((cnt : Int) + 1) = (cnt : Int) + 1 := IntWalk.i64_in _ (by omega)
  have HC := Lib.hid hc
  clear hc
  go_enter Tryz.func79, Tryz.ntmps79
  go_wp2_with (with_reducible refine stop_store ?_)
  unfold Stopped
  refine wpList_store_cell rfl _ _ _ rfl rfl g 2 (.int .i64 ((cnt : Int) + 1)) rfl rfl _ _ hd0.psr.blk size_int1 (by simp) rfl fun w2 hB2 hG2 => ?_
  have hd2 : Rdg 109 w H w2 H g A c l p (cnt + 1) := hd0.step hG2 hB2 hP.le (by have := HC.out; omega)
  have hT2 := hT0.grown hG2 (by intro e; injection e with e; omega)
  have PH := Lib.hid (p_head hd2.psr)
  clear hd0 hT0 hB2 hG2 c2 KC hc256 hc256'
  go_wp2_with fail
  refine PH.out.mono ?_
  intro e w3 hs
  rw [HeadSaid, hh] at hs

  obtain ⟨rfl, hB3, hG3⟩ := hs
  have HS := headP_spec hh
  have hle3 : p + k ≤ l.length := by have := HS.le; rw [List.length_drop] at this; have := hP.le; omega
  have hd3 : Rdg 109 w H w3 H g A c l (p + k) (cnt + 1) := hd2.step hG3 hB3 hle3 (by have := HC.out; omega)
  have hT3 := hT2.grown hG3 (by intro e; injection e with e; omega)
  have HF := Lib.hid HS
  clear hd2 hT2 hB3 hG3 PH HS hh

  have IT := ih w3 H g A c l (p + k) (cnt + 1) (lv + 1) hTab (by omega) hd3.psr
  rw [show ((lv + 1 : Nat) : Int) = (lv : Int) + 1 by omega] at IT
  have ITH := Lib.hid IT
  rw [List.drop_drop] at E0
  clear IT
  go_wp2_with fail
  refine ITH.out.mono ?_
  intro e w4 hs
  cases hp : parse d (l.drop (p + k)) (cnt + 1) with
  | err q =>
    rw [hp, ItemOut] at hs
    obtain ⟨rfl, H4, p4, cnt4, hd34⟩ := hs
    have hq0 : ((q : Int) != 0) = true := by rw [bne_iff_ne]; have := parse_err _ _ _ _ hp; omega
    have hq0' : ((q : Int) = 0) = False := eq_false (by have := parse_err _ _ _ _ hp; omega)
    have E : Hid (parse (d + 1) (l.drop p) cnt = .err q) := by rw [Hid, E0.out, hp]
    have hd4 := hd3.trans hd34
    have hT4 := hT3.rdg hd34 (by omega)
    have hn4 := hd34.hid hn0 hT3.lt
    have hX := Blk.new w4 26 #[.int .i64 0, .int .u64 0, .slice none 0 0, .slice none 0 0]
    have hd5 := hd4.alloc zeroO
    have hT5 := hT4.alloc zeroO
    have hd4h := Lib.hid hd4.psr.holds
    have hT4l := Lib.hid hT4.lt
    clear hd34 hd3 hT3 ITH hp E0 hd4 hT4
    have hge4 : w.heap.size ≤ w4.heap.size := Nat.le_of_lt hT4l.out
    have hH5 := (Holds.none_of_ge (w := w4) (H := H4) (hd4h.out) (Nat.le_refl _))
    go_wp2_with (with_reducible refine stop_store ?_)
    unfold Stopped
    refine wpList_store_item rfl _ _ _ rfl rfl _ _ rfl rfl _ _ hX size_item rfl (one4 _ _ _ _ rfl rfl rfl rfl) fun w6 hX6 hg6 => ?_
    have hd6 := hd5.grownRow (row := some w4.heap.size) (by rintro q ⟨⟩; exact hH5) (by rintro q ⟨⟩; exact hge4) hgl hg6
    have hT6 := hT5.grown hg6 (by intro e; injection e with e; have := hT4l.out; omega)
    clear hd5 hT5 hX hg6 hX6
    go_wp2_with (with_reducible refine stop_store ?_)
    unfold Stopped
    refine wpList_store_item rfl _ _ _ rfl rfl _ _ rfl rfl _ _ hT6 size_item rfl (one4 _ _ _ _ rfl rfl rfl rfl) fun wz hTy hgz => ?_
    have hdz := hd6.grownRow (row := some w.heap.size) (by rintro q ⟨⟩; exact hn4) (by rintro q ⟨⟩; exact Nat.le_refl _) hgl hgz
    go_wp2_with fail
    refine ret_row_tmp rfl rfl hTy rfl rfl size_item rfl ?_

    exact ItemOut.err E.out rfl hdz
  | ok x k' c' =>
    rw [hp, ItemOut] at hs
    obtain ⟨ja, jb, jc, jd, H4, rfl, hd34, hi4⟩ := hs
    have E : Hid (parse (d + 1) (l.drop p) cnt = .ok (.mk 6 n [] [x]) (k + k') c') := by rw [Hid, E0.out, hp]
    have hd4 := hd3.trans hd34
    have hT4 := hT3.rdg hd34 (by omega)
    have hn4 := hd34.hid hn0 hT3.lt
    have hX := Blk.new w4 26 #[.int .i64 0, .int .u64 0, .slice none 0 0, .slice none 0 0]
    have hd5 := hd4.alloc zeroO
    have hT5 := hT4.alloc zeroO
    have hd4h := Lib.hid hd4.psr.holds
    have hT4l := Lib.hid hT4.lt
    clear hd34 hd3 hT3 ITH hp E0 hd4 hT4
    have hge4 : w.heap.size ≤ w4.heap.size := Nat.le_of_lt hT4l.out
    have hH5 := (Holds.none_of_ge (w := w4) (H := H4) (hd4h.out) (Nat.le_refl _))
    go_wp2_with (with_reducible refine stop_store ?_)
    unfold Stopped
    refine wpList_store_item rfl _ _ _ rfl rfl _ _ rfl rfl _ _ hX size_item rfl (one4 _ _ _ _ rfl rfl rfl rfl) fun w6 hX6 hg6 => ?_
    have hd6 := hd5.grownRow (row := some w4.heap.size) (by rintro q ⟨⟩; exact hH5) (by rintro q ⟨⟩; exact hge4) hgl hg6
    have hT6 := hT5.grown hg6 (by intro e; injection e with e; have := hT4l.out; omega)
    have b0 := hX6.cell 0 rfl
    have b1 := hX6.cell 1 rfl
    have b2 := hX6.cell 2 rfl
    have b3 := hX6.cell 3 rfl
    obtain ⟨H7, hG7, hl7, hr7⟩ := lit_items (Grows.refl hd6.psr.holds) (ItemsC.one hi4) (by simp)
    have hd7 := hd6.grown hG7
    have hT7 := hT6.alloc (.cells (itemC x ja jb jc jd).toArray 26)
    have hn7 := hG7.none hn4 hT6.lt
    have hnl := Lib.hid HF.out.n_lt
    clear hd5 hT5 hX hg6 hX6 hd6 hT6 hG7
    go_wp2_with (with_reducible refine stop_store ?_)
    unfold Stopped
    refine wpList_store_item rfl _ _ _ rfl rfl _ _ rfl rfl _ _ hT7 size_item rfl (one4 _ _ _ _ rfl rfl rfl rfl) fun wz hTy hgz => ?_
    have hdz := hd7.grownRow (row := some w.heap.size) (by rintro q ⟨⟩; exact hn7) (by rintro q ⟨⟩; exact Nat.le_refl _) hgl hgz
    go_wp2_with fail
    refine ret_row_tmp rfl rfl hTy rfl rfl size_item rfl ?_

    exact ItemOut.ok E.out rfl (by rw [← Nat.add_assoc]; exact hdz) (hr7.item 6 (by omega) n hnl.out)
end
end Go.Proofs.YtebcnkelbicbnaaGreatDoor
