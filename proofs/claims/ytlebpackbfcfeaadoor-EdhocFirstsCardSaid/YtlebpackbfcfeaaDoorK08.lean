/- squeezed. Walks: the references' Raw, joined -/
import Derived.Test.YtlebpackbfcfeaaDoorK07
import Derived.Test.YtlebpackbfcfeaaDoorK05
set_option linter.unusedVariables false
set_option linter.unusedSimpArgs false
set_option maxRecDepth 100000
set_option maxHeartbeats 3200000
namespace Go.Proofs.YtlebpackbfcfeaaDoor
open Go.RowKit
theorem raw_more (x : Itm) (hk : 4 ≤ x.kind ∧ x.kind ≤ 6) (ih : ∀ y : Itm, cnt y < cnt x → RawSaid y) : RawSaid x := by
 intro H k n ba bl bc ia il ic w lv hg hl hx hH
 obtain ⟨rfl, rfl, rfl, rfl, hxi⟩ := hx.eqs_
 have hx := hxi
 have hbd := hx.bounds
 have e0 := enc_more hg hk
 rw [e0, List.length_append] at hl
 have HL := Hh hl
 have HG := Hh hg.items
 have hf6 := frameOk_spec (show frameOk x lv = true by rcases nodeOk_cases hg.node with ⟨h1, _⟩ | ⟨_, h1⟩; (rw [isPlain_iff] at h1; omega); exact h1)
 have hB := Blk.new w 69 #[.int .i64 x.kind, .int .u64 x.n, .slice ba x.bytes.length bc, .slice ia x.items.length ic]
 have hb0 := below_box w (itemO x ba bc ia ic)
 have hil : x.items.length ≤ 9223372036854775807 := by omega
 have HX := Hh hx
 have HN := Hh hbd.2.2.1
 clear hl hbd hf6 hg hx
 have three : ∃ (q m : Int) (hd : List UInt8) (D : Hid (∀ w1 : World, Calls Tryd.prog 65 #[.int .i64 q, .int .u64 m] w1 fun e w' => ∃ r, e = .returned r ∧ Fresh w1 hd r w')),
   encB x = hd ++ encL x.items ∧ ((x.kind = 4 ∧ q = 4 ∧ m = x.items.length) ∨ (x.kind = 5 ∧ q = 5 ∧ m = (x.items.length : Int) / 2) ∨ (x.kind = 6 ∧ q = 6 ∧ m = x.n)) := by
  rcases (by omega : x.kind = 4 ∨ x.kind = 5 ∨ x.kind = 6) with h | h | h
  ·refine ⟨4, x.items.length, _, fun w1 => ref_Head 4 _ w1 (by omega) (by omega) (by omega) (by omega), ?_, .inl ⟨h, rfl, rfl⟩⟩
   have : numP x = x.items.length := by simp [numP, h]
   rw [e0, h, this]; rfl
  ·refine ⟨5, (x.items.length : Int) / 2, _, fun w1 => ref_Head 5 _ w1 (by omega) (by omega) (by omega) (by omega), ?_, .inr (.inl ⟨h, rfl, rfl⟩)⟩
   have : numP x = x.items.length / 2 := by simp [numP, h]
   rw [e0, h, this]; rfl
  ·refine ⟨6, x.n, _, fun w1 => ref_Head 6 _ w1 (by omega) (by omega) (by omega) (by have := HN.out; omega), ?_, .inr (.inr ⟨h, rfl, rfl⟩)⟩
   have : numP x = x.n := by simp [numP, h]
   rw [e0, h, this]; rfl
 obtain ⟨q, m, hd, D, e1, h3⟩ := three
 have E := Hh e1
 have hl2 : hd.length + (encL x.items).length ≤ 1099511627776 := by rw [← List.length_append, ← e1, e0, List.length_append]; exact HL.out
 have HL2 := Hh hl2
 clear e0 e1 hl2 HL hk
 have KW : IntKind.u64.wrap (x.items.length : Int) = (x.items.length : Int) := IntWalk.u64_in _ (by omega)
 have KW2 : IntKind.u64.wrap ((x.items.length : Int) / 2) = (x.items.length : Int) / 2 := IntWalk.u64_in _ (by omega)
 rcases h3 with ⟨hk, rfl, rfl⟩ | ⟨hk, rfl, rfl⟩ | ⟨hk, rfl, rfl⟩
 ·obtain ⟨b0, b1, b2, b3, b4, b5, b6, b7, b8⟩ := kinds4 hk
  clear hk
  go_enter Tryd.func35, Tryd.ntmps35
  go_wp2_with fail
  refine (D.out _).mono ?_
  rintro e w1 ⟨r, rfl, hf⟩
  have hB1 := hB.below hf.2
  have hb1 := hb0.trans (hf.2.mono hb0.size)
  have c3 := hB1.cell 3 rfl
  have hO1 := hf.own.more hb0.size
  obtain ⟨RA, rc, rfl, _⟩ := hO1.form
  clear hf
  go_wp2_with fail
  go_loopw [3, 69] (fun v3 v69 wr => ∃ (k : Nat) (VA : Option Addr) (vc vn : Nat) (l : List UInt8), k ≤ x.items.length ∧ v69 = .int .i64 k ∧ v3 = .slice VA vn vc ∧ OwnB wr w.heap.size (.slice VA vn vc) l ∧ vn = l.length ∧ (encB x = l ++ encL (x.items.drop k)) ∧ Below w.heap.size w wr) (fun _ v69 _ => x.items.length - (intOf v69).toNat)
  case atStart => exact ⟨0, _, _, _, _, Nat.zero_le _, rfl, rfl, hO1, rfl, by rw [E.out]; rfl, hb1⟩
  case round =>
   obtain ⟨k, VA, vc, vn, l, hkl, rfl, rfl, hOr, hvn, hel, hbr⟩ := hrel
   have HV := Hh hvn
   have HE := Hh hel
   clear hvn hel
   by_cases hlt : k < x.items.length
   ·have hHr : Holds wr H := hH.below hbr (Nat.le_refl _)
    obtain ⟨ib, io, hia, hel⟩ := HX.out.items (by omega)
    obtain ⟨eba, ebc, eia, eic, q0, q1, q2, q3, hex⟩ := hel.get k hlt
    subst hia
    have p0 := hHr.cell q0
    have p1 := hHr.cell q1
    have p2 := hHr.cell q2
    have p3 := hHr.cell q3
    have hfin : encL (x.items.drop k) = encB x.items[k] ++ encL (x.items.drop (k + 1)) := by rw [List.drop_eq_getElem_cons hlt, encL]
    have hlen5 : l.length + (encB x.items[k]).length ≤ 1099511627776 := by
     have h1 := HL2.out
     rw [← List.length_append, ← E.out, HE.out, hfin] at h1
     simp only [List.length_append] at h1
     omega
    have HF : Hid (encB x = (l ++ encB x.items[k]) ++ encL (x.items.drop (k + 1))) := by rw [Hid, HE.out, hfin, List.append_assoc]
    have IHC := ih x.items[k] (cnt_items x k hlt) H _ _ eba _ ebc eia _ eic (wr.alloc (.cells #[.int .i64 x.items[k].kind, .int .u64 x.items[k].n, .slice eba x.items[k].bytes.length ebc, .slice eia x.items[k].items.length eic] 69)) (lv + 1)
     (HG.out.get _ (List.getElem_mem hlt)) (by omega) hex.arg (hHr.alloc _)
    have IHH := Hh IHC
    have hbr5 := hbr.alloc hbr.size (itemO x.items[k] eba ebc eia eic)
    have hO5 := hOr.alloc (itemO x.items[k] eba ebc eia eic)
    clear hfin q0 q1 q2 q3 IHC hOr
    go_wp2_with fail
    refine IHH.out.mono ?_
    rintro e w6 ⟨r6, rfl, hf6⟩
    obtain ⟨SA, sc, rfl, _⟩ := hf6.own.form
    have hO6 := hO5.below hf6.2
    have hb6 := hbr5.trans (hf6.2.mono hbr5.size)
    have hlen6 := hlen5
    clear hlen5
    go_wp2_with (at_builtin; refine stop_in ?_)
    unfold Stopped
    obtain rfl := HV.out
    refine wpList_app_bytes rfl (.tmp 73) (.tmp 75) rfl w.heap.size _ _ rfl hO6 SA _ sc (encB x.items[k]) rfl rfl hf6.own.src hlen6 hb6.size fun v' w7 hO7 hg7 hat7 => ?_
    obtain ⟨VA', vc', rfl, _⟩ := hO7.form
    have hO7' : OwnB w7 w.heap.size (.slice VA' (l.length + (encB x.items[k]).length) vc') (l ++ encB x.items[k]) := by rw [← List.length_append]; exact hO7
    have hb7 := hb6.grown hg7 hb6.size (fun q hq => (hO6.lt q hq).1)
    clear hlen6 hO6 hO7 hg7 hat7 hf6 IHH p0 p1 p2 p3 hO5 hbr5 hb6 hbr
    go_wp2_with fail
    go_roundw
    case rel => exact ⟨k + 1, VA', vc', _, _, by omega, by go_num, rfl, hO7', by rw [List.length_append], HF.out, hb7⟩
    case measure => simp [intOf]; omega
   ·have hkk : k = x.items.length := by omega
    subst hkk
    have HZ : Hid (encB x = l) := by rw [Hid, HE.out, List.drop_length, encL, List.append_nil]
    go_wp2_with fail
    go_ret
    obtain rfl := HV.out
    exact ⟨_, rfl, by rw [HZ.out]; exact ⟨hOr, hbr⟩⟩
 ·obtain ⟨b0, b1, b2, b3, b4, b5, b6, b7, b8⟩ := kinds5 hk
  clear hk
  go_enter Tryd.func35, Tryd.ntmps35
  go_wp2_with fail
  refine (D.out _).mono ?_
  rintro e w1 ⟨r, rfl, hf⟩
  have hB1 := hB.below hf.2
  have hb1 := hb0.trans (hf.2.mono hb0.size)
  have c3 := hB1.cell 3 rfl
  have hO1 := hf.own.more hb0.size
  obtain ⟨RA, rc, rfl, _⟩ := hO1.form
  clear hf
  go_wp2_with fail
  go_loopw [3, 69] (fun v3 v69 wr => ∃ (k : Nat) (VA : Option Addr) (vc vn : Nat) (l : List UInt8), k ≤ x.items.length ∧ v69 = .int .i64 k ∧ v3 = .slice VA vn vc ∧ OwnB wr w.heap.size (.slice VA vn vc) l ∧ vn = l.length ∧ (encB x = l ++ encL (x.items.drop k)) ∧ Below w.heap.size w wr) (fun _ v69 _ => x.items.length - (intOf v69).toNat)
  case atStart => exact ⟨0, _, _, _, _, Nat.zero_le _, rfl, rfl, hO1, rfl, by rw [E.out]; rfl, hb1⟩
  case round =>
   obtain ⟨k, VA, vc, vn, l, hkl, rfl, rfl, hOr, hvn, hel, hbr⟩ := hrel
   have HV := Hh hvn
   have HE := Hh hel
   clear hvn hel
   by_cases hlt : k < x.items.length
   ·have hHr : Holds wr H := hH.below hbr (Nat.le_refl _)
    obtain ⟨ib, io, hia, hel⟩ := HX.out.items (by omega)
    obtain ⟨eba, ebc, eia, eic, q0, q1, q2, q3, hex⟩ := hel.get k hlt
    subst hia
    have p0 := hHr.cell q0
    have p1 := hHr.cell q1
    have p2 := hHr.cell q2
    have p3 := hHr.cell q3
    have hfin : encL (x.items.drop k) = encB x.items[k] ++ encL (x.items.drop (k + 1)) := by rw [List.drop_eq_getElem_cons hlt, encL]
    have hlen5 : l.length + (encB x.items[k]).length ≤ 1099511627776 := by
     have h1 := HL2.out
     rw [← List.length_append, ← E.out, HE.out, hfin] at h1
     simp only [List.length_append] at h1
     omega
    have HF : Hid (encB x = (l ++ encB x.items[k]) ++ encL (x.items.drop (k + 1))) := by rw [Hid, HE.out, hfin, List.append_assoc]
    have IHC := ih x.items[k] (cnt_items x k hlt) H _ _ eba _ ebc eia _ eic (wr.alloc (.cells #[.int .i64 x.items[k].kind, .int .u64 x.items[k].n, .slice eba x.items[k].bytes.length ebc, .slice eia x.items[k].items.length eic] 69)) (lv + 1)
     (HG.out.get _ (List.getElem_mem hlt)) (by omega) hex.arg (hHr.alloc _)
    have IHH := Hh IHC
    have hbr5 := hbr.alloc hbr.size (itemO x.items[k] eba ebc eia eic)
    have hO5 := hOr.alloc (itemO x.items[k] eba ebc eia eic)
    clear hfin q0 q1 q2 q3 IHC hOr
    go_wp2_with fail
    refine IHH.out.mono ?_
    rintro e w6 ⟨r6, rfl, hf6⟩
    obtain ⟨SA, sc, rfl, _⟩ := hf6.own.form
    have hO6 := hO5.below hf6.2
    have hb6 := hbr5.trans (hf6.2.mono hbr5.size)
    have hlen6 := hlen5
    clear hlen5
    go_wp2_with (at_builtin; refine stop_in ?_)
    unfold Stopped
    obtain rfl := HV.out
    refine wpList_app_bytes rfl (.tmp 73) (.tmp 75) rfl w.heap.size _ _ rfl hO6 SA _ sc (encB x.items[k]) rfl rfl hf6.own.src hlen6 hb6.size fun v' w7 hO7 hg7 hat7 => ?_
    obtain ⟨VA', vc', rfl, _⟩ := hO7.form
    have hO7' : OwnB w7 w.heap.size (.slice VA' (l.length + (encB x.items[k]).length) vc') (l ++ encB x.items[k]) := by rw [← List.length_append]; exact hO7
    have hb7 := hb6.grown hg7 hb6.size (fun q hq => (hO6.lt q hq).1)
    clear hlen6 hO6 hO7 hg7 hat7 hf6 IHH p0 p1 p2 p3 hO5 hbr5 hb6 hbr
    go_wp2_with fail
    go_roundw
    case rel => exact ⟨k + 1, VA', vc', _, _, by omega, by go_num, rfl, hO7', by rw [List.length_append], HF.out, hb7⟩
    case measure => simp [intOf]; omega
   ·have hkk : k = x.items.length := by omega
    subst hkk
    have HZ : Hid (encB x = l) := by rw [Hid, HE.out, List.drop_length, encL, List.append_nil]
    go_wp2_with fail
    go_ret
    obtain rfl := HV.out
    exact ⟨_, rfl, by rw [HZ.out]; exact ⟨hOr, hbr⟩⟩
 ·obtain ⟨b0, b1, b2, b3, b4, b5, b6, b7, b8⟩ := kinds6 hk
  clear hk
  go_enter Tryd.func35, Tryd.ntmps35
  go_wp2_with fail
  refine (D.out _).mono ?_
  rintro e w1 ⟨r, rfl, hf⟩
  have hB1 := hB.below hf.2
  have hb1 := hb0.trans (hf.2.mono hb0.size)
  have c3 := hB1.cell 3 rfl
  have hO1 := hf.own.more hb0.size
  obtain ⟨RA, rc, rfl, _⟩ := hO1.form
  clear hf
  go_wp2_with fail
  go_loopw [3, 69] (fun v3 v69 wr => ∃ (k : Nat) (VA : Option Addr) (vc vn : Nat) (l : List UInt8), k ≤ x.items.length ∧ v69 = .int .i64 k ∧ v3 = .slice VA vn vc ∧ OwnB wr w.heap.size (.slice VA vn vc) l ∧ vn = l.length ∧ (encB x = l ++ encL (x.items.drop k)) ∧ Below w.heap.size w wr) (fun _ v69 _ => x.items.length - (intOf v69).toNat)
  case atStart => exact ⟨0, _, _, _, _, Nat.zero_le _, rfl, rfl, hO1, rfl, by rw [E.out]; rfl, hb1⟩
  case round =>
   obtain ⟨k, VA, vc, vn, l, hkl, rfl, rfl, hOr, hvn, hel, hbr⟩ := hrel
   have HV := Hh hvn
   have HE := Hh hel
   clear hvn hel
   by_cases hlt : k < x.items.length
   ·have hHr : Holds wr H := hH.below hbr (Nat.le_refl _)
    obtain ⟨ib, io, hia, hel⟩ := HX.out.items (by omega)
    obtain ⟨eba, ebc, eia, eic, q0, q1, q2, q3, hex⟩ := hel.get k hlt
    subst hia
    have p0 := hHr.cell q0
    have p1 := hHr.cell q1
    have p2 := hHr.cell q2
    have p3 := hHr.cell q3
    have hfin : encL (x.items.drop k) = encB x.items[k] ++ encL (x.items.drop (k + 1)) := by rw [List.drop_eq_getElem_cons hlt, encL]
    have hlen5 : l.length + (encB x.items[k]).length ≤ 1099511627776 := by
     have h1 := HL2.out
     rw [← List.length_append, ← E.out, HE.out, hfin] at h1
     simp only [List.length_append] at h1
     omega
    have HF : Hid (encB x = (l ++ encB x.items[k]) ++ encL (x.items.drop (k + 1))) := by rw [Hid, HE.out, hfin, List.append_assoc]
    have IHC := ih x.items[k] (cnt_items x k hlt) H _ _ eba _ ebc eia _ eic (wr.alloc (.cells #[.int .i64 x.items[k].kind, .int .u64 x.items[k].n, .slice eba x.items[k].bytes.length ebc, .slice eia x.items[k].items.length eic] 69)) (lv + 1)
     (HG.out.get _ (List.getElem_mem hlt)) (by omega) hex.arg (hHr.alloc _)
    have IHH := Hh IHC
    have hbr5 := hbr.alloc hbr.size (itemO x.items[k] eba ebc eia eic)
    have hO5 := hOr.alloc (itemO x.items[k] eba ebc eia eic)
    clear hfin q0 q1 q2 q3 IHC hOr
    go_wp2_with fail
    refine IHH.out.mono ?_
    rintro e w6 ⟨r6, rfl, hf6⟩
    obtain ⟨SA, sc, rfl, _⟩ := hf6.own.form
    have hO6 := hO5.below hf6.2
    have hb6 := hbr5.trans (hf6.2.mono hbr5.size)
    have hlen6 := hlen5
    clear hlen5
    go_wp2_with (at_builtin; refine stop_in ?_)
    unfold Stopped
    obtain rfl := HV.out
    refine wpList_app_bytes rfl (.tmp 73) (.tmp 75) rfl w.heap.size _ _ rfl hO6 SA _ sc (encB x.items[k]) rfl rfl hf6.own.src hlen6 hb6.size fun v' w7 hO7 hg7 hat7 => ?_
    obtain ⟨VA', vc', rfl, _⟩ := hO7.form
    have hO7' : OwnB w7 w.heap.size (.slice VA' (l.length + (encB x.items[k]).length) vc') (l ++ encB x.items[k]) := by rw [← List.length_append]; exact hO7
    have hb7 := hb6.grown hg7 hb6.size (fun q hq => (hO6.lt q hq).1)
    clear hlen6 hO6 hO7 hg7 hat7 hf6 IHH p0 p1 p2 p3 hO5 hbr5 hb6 hbr
    go_wp2_with fail
    go_roundw
    case rel => exact ⟨k + 1, VA', vc', _, _, by omega, by go_num, rfl, hO7', by rw [List.length_append], HF.out, hb7⟩
    case measure => simp [intOf]; omega
   ·have hkk : k = x.items.length := by omega
    subst hkk
    have HZ : Hid (encB x = l) := by rw [Hid, HE.out, List.drop_length, encL, List.append_nil]
    go_wp2_with fail
    go_ret
    obtain rfl := HV.out
    exact ⟨_, rfl, by rw [HZ.out]; exact ⟨hOr, hbr⟩⟩
theorem ref_Raw (x : Itm) : RawSaid x := by
 have main : ∀ N, ∀ x : Itm, cnt x ≤ N → RawSaid x := by
  intro N
  induction N with
  | zero =>
   intro x hx
   have : 0 < cnt x := by cases x; rw [cnt]; omega
   omega
  | succ N ih =>
   intro x hx
   by_cases hk : 4 ≤ x.kind ∧ x.kind ≤ 6
   ·exact raw_more x hk fun y hy => ih y (by omega)
   ·intro H k n ba bl bc ia il ic w lv hg hl ha hH
    obtain ⟨rfl, rfl, rfl, rfl, hi⟩ := ha.eqs_
    have hkk := nodeOk_kind hg.node
    rcases (by omega : (x.kind = 0 ∨ x.kind = 1) ∨ (x.kind = 2 ∨ x.kind = 3) ∨ x.kind = 7 ∨ x.kind = 8) with h | h | h | h
    ·exact raw_num x w lv h hg hi
    ·exact raw_str x w lv h hg hl hi hH
    ·exact raw_simple x w lv h hg hi
    ·exact raw_float x w h hi
 exact main _ x (Nat.le_refl _)
mutual
def Nums : Itm → Prop
 | .mk _ n _ l => n < 18446744073709551616 ∧ NumsL l
def NumsL : List Itm → Prop
 | [] => True
 | x :: l => Nums x ∧ NumsL l
end
def Nar15 (n v s x f : Nat) : Prop := s ≤ 1 ∧ v = s * 32768 + x * 1024 + f ∧ f < 1024 ∧ x ≤ 31 ∧
 ((x = 31 ∧ f = 0 ∧ n = s * 9223372036854775808 + 9218868437227405312) ∨ (x = 0 ∧ f = 0 ∧ n = s * 9223372036854775808) ∨
  (1 ≤ x ∧ x ≤ 30 ∧ n = s * 9223372036854775808 + (x + 1008) * 4503599627370496 + f * 4398046511104) ∨
  (x = 0 ∧ ∃ t full, t < 10 ∧ 2 ^ t ≤ f ∧ f < 2 ^ (t + 1) ∧ full = f * 2 ^ (52 - t) ∧ 4503599627370496 ≤ full ∧ n = s * 9223372036854775808 + (999 + t) * 4503599627370496 + (full - 4503599627370496)))
theorem nar15_mk (n v s x f : Nat) (h1 : s ≤ 1) (h2 : v = s * 32768 + x * 1024 + f) (h3 : f < 1024) (h4 : x ≤ 31)
  (h : (x = 31 ∧ f = 0 ∧ n = s * 9223372036854775808 + 9218868437227405312) ∨ (x = 0 ∧ f = 0 ∧ n = s * 9223372036854775808) ∨
  (1 ≤ x ∧ x ≤ 30 ∧ n = s * 9223372036854775808 + (x + 1008) * 4503599627370496 + f * 4398046511104) ∨
  (x = 0 ∧ ∃ t full, t < 10 ∧ 2 ^ t ≤ f ∧ f < 2 ^ (t + 1) ∧ full = f * 2 ^ (52 - t) ∧ 4503599627370496 ≤ full ∧ n = s * 9223372036854775808 + (999 + t) * 4503599627370496 + (full - 4503599627370496))) : ∃ s x f, Nar15 n v s x f :=
 ⟨s, x, f, h1, h2, h3, h4, h⟩
theorem narrow15_spec {n v : Nat} (hn : n < 18446744073709551616) (h : narrow n 5 10 = some v) : ∃ s x f, Nar15 n v s x f := by
 obtain ⟨ex, hex⟩ : ∃ ex, n / 4503599627370496 % 2048 = ex := ⟨_, rfl⟩
 obtain ⟨mx, hmx⟩ : ∃ mx, n % 4503599627370496 = mx := ⟨_, rfl⟩
 obtain ⟨sg, hsg⟩ : ∃ sg, n / 9223372036854775808 = sg := ⟨_, rfl⟩
 have hs1 : sg ≤ 1 := by omega
 have hnn : n = sg * 9223372036854775808 + ex * 4503599627370496 + mx := by omega
 have he1 : ex < 2048 := by omega
 have hm1 : mx < 4503599627370496 := by omega
 rw [narrow] at h
 simp only [Nat.reducePow, Nat.reduceSub, Nat.reduceAdd, Nat.reduceMul, hex, hmx, hsg] at h
 clear hex hmx hsg hn
 split at h
 ·rename_i q1
  split at h
  ·rename_i q2
   injection h with h
   subst q1 q2
   exact nar15_mk _ _ _ _ _ hs1 (by omega) (by omega) (by omega) (.inl (And.intro rfl (And.intro rfl (by omega))))
  ·cases h
 rename_i c1
 split at h
 ·rename_i q1
  split at h
  ·rename_i q2
   injection h with h
   subst q1 q2
   exact nar15_mk _ _ _ 0 0 hs1 (by omega) (by omega) (by omega) (.inr (.inl (And.intro rfl (And.intro rfl (by rw [hnn, Nat.zero_mul]; simp only [Nat.add_zero])))))
  ·cases h
 rename_i c2
 split at h
 ·cases h
 rename_i c3
 split at h
 ·rename_i c4
  split at h
  ·rename_i c5
   injection h with h
   obtain ⟨x, hx⟩ : ∃ x, ex = x + 1008 := ⟨ex - 1008, by omega⟩
   obtain ⟨f, hf⟩ : ∃ f, mx = f * 4398046511104 := ⟨mx / 4398046511104, by omega⟩
   subst hx hf
   exact nar15_mk _ _ _ x f hs1 (by omega) (by omega) (by omega) (.inr (.inr (.inl (And.intro (by omega) (And.intro (by omega) hnn)))))
  ·cases h
 rename_i c4
 split at h
 ·cases h
 rename_i c5
 split at h
 ·rename_i c6
  injection h with h
  obtain ⟨t, ht⟩ : ∃ t, ex = 999 + t := ⟨ex - 999, by omega⟩
  have hsh : 43 + (1023 - ex - 15) = 52 - t := by omega
  rw [hsh] at h c6
  obtain ⟨f, hf⟩ : ∃ f, (mx + 4503599627370496) / 2 ^ (52 - t) = f := ⟨_, rfl⟩
  have hfull : mx + 4503599627370496 = f * 2 ^ (52 - t) := by
   rw [← hf, Nat.div_mul_cancel (Nat.dvd_of_mod_eq_zero c6)]
  have hpos : 0 < 2 ^ (52 - t) := Nat.two_pow_pos _
  have e1 : 2 ^ t * 2 ^ (52 - t) = 4503599627370496 := by
   rw [← Nat.pow_add, show t + (52 - t) = 52 by omega]
  have e2 : 2 ^ (t + 1) * 2 ^ (52 - t) = 9007199254740992 := by
   rw [← Nat.pow_add, show t + 1 + (52 - t) = 53 by omega]
  have b1 : 2 ^ t ≤ f := by
   apply Nat.le_of_mul_le_mul_right _ hpos
   omega
  have b2 : f < 2 ^ (t + 1) := by
   apply Nat.lt_of_mul_lt_mul_right (a := 2 ^ (52 - t))
   omega
  have b3 : 2 ^ (t + 1) ≤ 2 ^ 10 := Nat.pow_le_pow_right (by omega) (by omega)
  simp only [Nat.reducePow] at b3
  rw [hf] at h
  have hn' : n = sg * 9223372036854775808 + (999 + t) * 4503599627370496 + (mx + 4503599627370496 - 4503599627370496) := by rw [hnn, ht, Nat.add_sub_cancel]
  exact nar15_mk _ _ _ 0 f hs1 (by omega) (by omega) (by omega) (.inr (.inr (.inr (And.intro rfl ⟨t, mx + 4503599627370496, by omega, b1, b2, hfull, by omega, hn'⟩))))
 ·cases h
def Nar31 (n v s x f : Nat) : Prop := s ≤ 1 ∧ v = s * 2147483648 + x * 8388608 + f ∧ f < 8388608 ∧ x ≤ 255 ∧
 ((x = 255 ∧ f = 0 ∧ n = s * 9223372036854775808 + 9218868437227405312) ∨ (x = 0 ∧ f = 0 ∧ n = s * 9223372036854775808) ∨
  (1 ≤ x ∧ x ≤ 254 ∧ n = s * 9223372036854775808 + (x + 896) * 4503599627370496 + f * 536870912) ∨
  (x = 0 ∧ ∃ t full, t < 23 ∧ 2 ^ t ≤ f ∧ f < 2 ^ (t + 1) ∧ full = f * 2 ^ (52 - t) ∧ 4503599627370496 ≤ full ∧ n = s * 9223372036854775808 + (874 + t) * 4503599627370496 + (full - 4503599627370496)))
theorem nar31_mk (n v s x f : Nat) (h1 : s ≤ 1) (h2 : v = s * 2147483648 + x * 8388608 + f) (h3 : f < 8388608) (h4 : x ≤ 255)
  (h : (x = 255 ∧ f = 0 ∧ n = s * 9223372036854775808 + 9218868437227405312) ∨ (x = 0 ∧ f = 0 ∧ n = s * 9223372036854775808) ∨
  (1 ≤ x ∧ x ≤ 254 ∧ n = s * 9223372036854775808 + (x + 896) * 4503599627370496 + f * 536870912) ∨
  (x = 0 ∧ ∃ t full, t < 23 ∧ 2 ^ t ≤ f ∧ f < 2 ^ (t + 1) ∧ full = f * 2 ^ (52 - t) ∧ 4503599627370496 ≤ full ∧ n = s * 9223372036854775808 + (874 + t) * 4503599627370496 + (full - 4503599627370496))) : ∃ s x f, Nar31 n v s x f :=
 ⟨s, x, f, h1, h2, h3, h4, h⟩
theorem narrow31_spec {n v : Nat} (hn : n < 18446744073709551616) (h : narrow n 8 23 = some v) : ∃ s x f, Nar31 n v s x f := by
 obtain ⟨ex, hex⟩ : ∃ ex, n / 4503599627370496 % 2048 = ex := ⟨_, rfl⟩
 obtain ⟨mx, hmx⟩ : ∃ mx, n % 4503599627370496 = mx := ⟨_, rfl⟩
 obtain ⟨sg, hsg⟩ : ∃ sg, n / 9223372036854775808 = sg := ⟨_, rfl⟩
 have hs1 : sg ≤ 1 := by omega
 have hnn : n = sg * 9223372036854775808 + ex * 4503599627370496 + mx := by omega
 have he1 : ex < 2048 := by omega
 have hm1 : mx < 4503599627370496 := by omega
 rw [narrow] at h
 simp only [Nat.reducePow, Nat.reduceSub, Nat.reduceAdd, Nat.reduceMul, hex, hmx, hsg] at h
 clear hex hmx hsg hn
 split at h
 ·rename_i q1
  split at h
  ·rename_i q2
   injection h with h
   subst q1 q2
   exact nar31_mk _ _ _ _ _ hs1 (by omega) (by omega) (by omega) (.inl (And.intro rfl (And.intro rfl (by omega))))
  ·cases h
 rename_i c1
 split at h
 ·rename_i q1
  split at h
  ·rename_i q2
   injection h with h
   subst q1 q2
   exact nar31_mk _ _ _ 0 0 hs1 (by omega) (by omega) (by omega) (.inr (.inl (And.intro rfl (And.intro rfl (by rw [hnn, Nat.zero_mul]; simp only [Nat.add_zero])))))
  ·cases h
 rename_i c2
 split at h
 ·cases h
 rename_i c3
 split at h
 ·rename_i c4
  split at h
  ·rename_i c5
   injection h with h
   obtain ⟨x, hx⟩ : ∃ x, ex = x + 896 := ⟨ex - 896, by omega⟩
   obtain ⟨f, hf⟩ : ∃ f, mx = f * 536870912 := ⟨mx / 536870912, by omega⟩
   subst hx hf
   exact nar31_mk _ _ _ x f hs1 (by omega) (by omega) (by omega) (.inr (.inr (.inl (And.intro (by omega) (And.intro (by omega) hnn)))))
  ·cases h
 rename_i c4
 split at h
 ·cases h
 rename_i c5
 split at h
 ·rename_i c6
  injection h with h
  obtain ⟨t, ht⟩ : ∃ t, ex = 874 + t := ⟨ex - 874, by omega⟩
  have hsh : 30 + (1023 - ex - 127) = 52 - t := by omega
  rw [hsh] at h c6
  obtain ⟨f, hf⟩ : ∃ f, (mx + 4503599627370496) / 2 ^ (52 - t) = f := ⟨_, rfl⟩
  have hfull : mx + 4503599627370496 = f * 2 ^ (52 - t) := by
   rw [← hf, Nat.div_mul_cancel (Nat.dvd_of_mod_eq_zero c6)]
  have hpos : 0 < 2 ^ (52 - t) := Nat.two_pow_pos _
  have e1 : 2 ^ t * 2 ^ (52 - t) = 4503599627370496 := by
   rw [← Nat.pow_add, show t + (52 - t) = 52 by omega]
  have e2 : 2 ^ (t + 1) * 2 ^ (52 - t) = 9007199254740992 := by
   rw [← Nat.pow_add, show t + 1 + (52 - t) = 53 by omega]
  have b1 : 2 ^ t ≤ f := by
   apply Nat.le_of_mul_le_mul_right _ hpos
   omega
  have b2 : f < 2 ^ (t + 1) := by
   apply Nat.lt_of_mul_lt_mul_right (a := 2 ^ (52 - t))
   omega
  have b3 : 2 ^ (t + 1) ≤ 2 ^ 23 := Nat.pow_le_pow_right (by omega) (by omega)
  simp only [Nat.reducePow] at b3
  rw [hf] at h
  have hn' : n = sg * 9223372036854775808 + (874 + t) * 4503599627370496 + (mx + 4503599627370496 - 4503599627370496) := by rw [hnn, ht, Nat.add_sub_cancel]
  exact nar31_mk _ _ _ 0 f hs1 (by omega) (by omega) (by omega) (.inr (.inr (.inr (And.intro rfl ⟨t, mx + 4503599627370496, by omega, b1, b2, hfull, by omega, hn'⟩))))
 ·cases h
end Go.Proofs.YtlebpackbfcfeaaDoor
