/- squeezed. Walks: the references' Raw, joined -/
import Derived.Test.YtmacemcajlgddaaGreatDoorK05
import Derived.Test.YtmacemcajlgddaaGreatDoorK04
import Derived.Test.YtmacemcajlgddaaGreatDoorK00
import Derived.Laws.Externs
import Derived.Laws.FloatArith
set_option linter.unusedVariables false
set_option linter.unusedSimpArgs false
set_option maxRecDepth 100000
set_option maxHeartbeats 3200000
namespace Go.Proofs.YtmacemcajlgddaaGreatDoor
open Go.RowKit
theorem raw_more (x : Itm) (hk : 4 ≤ x.kind ∧ x.kind ≤ 6) (ih : ∀ y : Itm, cnt y < cnt x → RawSaid y) : RawSaid x := by
 intro H k n ba bl bc ia il ic w lv hg hl hx hH
 obtain ⟨rfl, rfl, rfl, rfl, hxi⟩ := hx.eqs_;have hx := hxi;have hbd := hx.bounds;have e0 := enc_more hg hk;rw [e0, List.length_append] at hl;have HL := Hh hl;have HG := Hh hg.items;have hf6 := frameOk_spec (show frameOk x lv = true by rcases nodeOk_cases hg.node with ⟨h1, _⟩ | ⟨_, h1⟩; (rw [isPlain_iff] at h1; omega); exact h1);have hB := Blk.new w 54 #[.int .i64 x.kind, .int .u64 x.n, .slice ba x.bytes.length bc, .slice ia x.items.length ic];have hb0 := below_box w (itemO x ba bc ia ic);have hil : x.items.length ≤ 9223372036854775807 := by omega
 have HX := Hh hx;have HN := Hh hbd.2.2.1;clear hl hbd hf6 hg hx
 have three : ∃ (q m : Int) (hd : List UInt8) (D : Hid (∀ w1 : World, Calls Tryz.prog 78 #[.int .i64 q, .int .u64 m] w1 fun e w' => ∃ r, e = .returned r ∧ Fresh w1 hd r w')),
   encB x = hd ++ encL x.items ∧ ((x.kind = 4 ∧ q = 4 ∧ m = x.items.length) ∨ (x.kind = 5 ∧ q = 5 ∧ m = (x.items.length : Int) / 2) ∨ (x.kind = 6 ∧ q = 6 ∧ m = x.n)) := by
  rcases (by omega : x.kind = 4 ∨ x.kind = 5 ∨ x.kind = 6) with h | h | h
  ·refine ⟨4, x.items.length, _, fun w1 => ref_Head 4 _ w1 (by omega) (by omega) (by omega) (by omega), ?_, .inl ⟨h, rfl, rfl⟩⟩
   have : numP x = x.items.length := by simp [numP, h]
   rw [e0, h, this]; rfl
  ·refine ⟨5, (x.items.length : Int) / 2, _, fun w1 => ref_Head 5 _ w1 (by omega) (by omega) (by omega) (by omega), ?_, .inr (.inl ⟨h, rfl, rfl⟩)⟩
   have : numP x = x.items.length / 2 := by simp [numP, h]
   rw [e0, h, this]; rfl
  ·refine ⟨6, x.n, _, fun w1 => ref_Head 6 _ w1 (by omega) (by omega) (by omega) (by have := HN.out; omega), ?_, .inr (.inr ⟨h, rfl, rfl⟩)⟩
   have : numP x = x.n := by simp [numP, h]
   rw [e0, h, this]; rfl
 obtain ⟨q, m, hd, D, e1, h3⟩ := three;have E := Hh e1;have hl2 : hd.length + (encL x.items).length ≤ 1099511627776 := by rw [← List.length_append, ← e1, e0, List.length_append]; exact HL.out
 have HL2 := Hh hl2;clear e0 e1 hl2 HL hk;have KW : IntKind.u64.wrap (x.items.length : Int) = (x.items.length : Int) := IntWalk.u64_in _ (by omega);have KW2 : IntKind.u64.wrap ((x.items.length : Int) / 2) = (x.items.length : Int) / 2 := IntWalk.u64_in _ (by omega)
 rcases h3 with ⟨hk, rfl, rfl⟩ | ⟨hk, rfl, rfl⟩ | ⟨hk, rfl, rfl⟩
 ·obtain ⟨b0, b1, b2, b3, b4, b5, b6, b7, b8⟩ := kinds4 hk;clear hk;go_enter Tryz.func48, Tryz.ntmps48
  go_wp2_with fail
  refine (D.out _).mono ?_
  rintro e w1 ⟨r, rfl, hf⟩
  have hB1 := hB.below hf.2;have hb1 := hb0.trans (hf.2.mono hb0.size);have c3 := hB1.cell 3 rfl;have hO1 := hf.own.more hb0.size;obtain ⟨RA, rc, rfl, _⟩ := hO1.form;clear hf;go_wp2_with fail
  go_loopw [3, 69] (fun v3 v69 wr => ∃ (k : Nat) (VA : Option Addr) (vc vn : Nat) (l : List UInt8), k ≤ x.items.length ∧ v69 = .int .i64 k ∧ v3 = .slice VA vn vc ∧ OwnB wr w.heap.size (.slice VA vn vc) l ∧ vn = l.length ∧ (encB x = l ++ encL (x.items.drop k)) ∧ Below w.heap.size w wr) (fun _ v69 _ => x.items.length - (intOf v69).toNat)
  case atStart => exact ⟨0, _, _, _, _, Nat.zero_le _, rfl, rfl, hO1, rfl, by rw [E.out]; rfl, hb1⟩
  case round =>
   obtain ⟨k, VA, vc, vn, l, hkl, rfl, rfl, hOr, hvn, hel, hbr⟩ := hrel;have HV := Hh hvn;have HE := Hh hel;clear hvn hel
   by_cases hlt : k < x.items.length
   ·have hHr : Holds wr H := hH.below hbr (Nat.le_refl _);obtain ⟨ib, io, hia, hel⟩ := HX.out.items (by omega);obtain ⟨eba, ebc, eia, eic, q0, q1, q2, q3, hex⟩ := hel.get k hlt;subst hia;have p0 := hHr.cell q0;have p1 := hHr.cell q1;have p2 := hHr.cell q2;have p3 := hHr.cell q3;have hfin : encL (x.items.drop k) = encB x.items[k] ++ encL (x.items.drop (k + 1)) := by rw [List.drop_eq_getElem_cons hlt, encL]
    have hlen5 : l.length + (encB x.items[k]).length ≤ 1099511627776 := by
     have h1 := HL2.out;rw [← List.length_append, ← E.out, HE.out, hfin] at h1
     simp only [List.length_append] at h1
     omega
    have HF : Hid (encB x = (l ++ encB x.items[k]) ++ encL (x.items.drop (k + 1))) := by rw [Hid, HE.out, hfin, List.append_assoc]
    have IHC := ih x.items[k] (cnt_items x k hlt) H _ _ eba _ ebc eia _ eic (wr.alloc (.cells #[.int .i64 x.items[k].kind, .int .u64 x.items[k].n, .slice eba x.items[k].bytes.length ebc, .slice eia x.items[k].items.length eic] 54)) (lv + 1)
     (HG.out.get _ (List.getElem_mem hlt)) (by omega) hex.arg (hHr.alloc _)
    have IHH := Hh IHC;have hbr5 := hbr.alloc hbr.size (itemO x.items[k] eba ebc eia eic);have hO5 := hOr.alloc (itemO x.items[k] eba ebc eia eic);clear hfin q0 q1 q2 q3 IHC hOr;go_wp2_with fail
    refine IHH.out.mono ?_
    rintro e w6 ⟨r6, rfl, hf6⟩
    obtain ⟨SA, sc, rfl, _⟩ := hf6.own.form;have hO6 := hO5.below hf6.2;have hb6 := hbr5.trans (hf6.2.mono hbr5.size);have hlen6 := hlen5;clear hlen5;go_wp2_with (at_builtin; refine stop_in ?_)
    unfold Stopped
    obtain rfl := HV.out
    refine wpList_app_bytes rfl (.tmp 73) (.tmp 75) rfl w.heap.size _ _ rfl hO6 SA _ sc (encB x.items[k]) rfl rfl hf6.own.src hlen6 hb6.size fun v' w7 hO7 hg7 hat7 => ?_
    obtain ⟨VA', vc', rfl, _⟩ := hO7.form;have hO7' : OwnB w7 w.heap.size (.slice VA' (l.length + (encB x.items[k]).length) vc') (l ++ encB x.items[k]) := by rw [← List.length_append]; exact hO7
    have hb7 := hb6.grown hg7 hb6.size (fun q hq => (hO6.lt q hq).1);clear hlen6 hO6 hO7 hg7 hat7 hf6 IHH p0 p1 p2 p3 hO5 hbr5 hb6 hbr;go_wp2_with fail
    go_roundw
    case rel => exact ⟨k + 1, VA', vc', _, _, by omega, by go_num, rfl, hO7', by rw [List.length_append], HF.out, hb7⟩
    case measure => simp [intOf]; omega
   ·have hkk : k = x.items.length := by omega
    subst hkk;have HZ : Hid (encB x = l) := by rw [Hid, HE.out, List.drop_length, encL, List.append_nil]
    go_wp2_with fail
    go_ret
    obtain rfl := HV.out
    exact ⟨_, rfl, by rw [HZ.out]; exact ⟨hOr, hbr⟩⟩
 ·obtain ⟨b0, b1, b2, b3, b4, b5, b6, b7, b8⟩ := kinds5 hk;clear hk;go_enter Tryz.func48, Tryz.ntmps48
  go_wp2_with fail
  refine (D.out _).mono ?_
  rintro e w1 ⟨r, rfl, hf⟩
  have hB1 := hB.below hf.2;have hb1 := hb0.trans (hf.2.mono hb0.size);have c3 := hB1.cell 3 rfl;have hO1 := hf.own.more hb0.size;obtain ⟨RA, rc, rfl, _⟩ := hO1.form;clear hf;go_wp2_with fail
  go_loopw [3, 69] (fun v3 v69 wr => ∃ (k : Nat) (VA : Option Addr) (vc vn : Nat) (l : List UInt8), k ≤ x.items.length ∧ v69 = .int .i64 k ∧ v3 = .slice VA vn vc ∧ OwnB wr w.heap.size (.slice VA vn vc) l ∧ vn = l.length ∧ (encB x = l ++ encL (x.items.drop k)) ∧ Below w.heap.size w wr) (fun _ v69 _ => x.items.length - (intOf v69).toNat)
  case atStart => exact ⟨0, _, _, _, _, Nat.zero_le _, rfl, rfl, hO1, rfl, by rw [E.out]; rfl, hb1⟩
  case round =>
   obtain ⟨k, VA, vc, vn, l, hkl, rfl, rfl, hOr, hvn, hel, hbr⟩ := hrel;have HV := Hh hvn;have HE := Hh hel;clear hvn hel
   by_cases hlt : k < x.items.length
   ·have hHr : Holds wr H := hH.below hbr (Nat.le_refl _);obtain ⟨ib, io, hia, hel⟩ := HX.out.items (by omega);obtain ⟨eba, ebc, eia, eic, q0, q1, q2, q3, hex⟩ := hel.get k hlt;subst hia;have p0 := hHr.cell q0;have p1 := hHr.cell q1;have p2 := hHr.cell q2;have p3 := hHr.cell q3;have hfin : encL (x.items.drop k) = encB x.items[k] ++ encL (x.items.drop (k + 1)) := by rw [List.drop_eq_getElem_cons hlt, encL]
    have hlen5 : l.length + (encB x.items[k]).length ≤ 1099511627776 := by
     have h1 := HL2.out;rw [← List.length_append, ← E.out, HE.out, hfin] at h1
     simp only [List.length_append] at h1
     omega
    have HF : Hid (encB x = (l ++ encB x.items[k]) ++ encL (x.items.drop (k + 1))) := by rw [Hid, HE.out, hfin, List.append_assoc]
    have IHC := ih x.items[k] (cnt_items x k hlt) H _ _ eba _ ebc eia _ eic (wr.alloc (.cells #[.int .i64 x.items[k].kind, .int .u64 x.items[k].n, .slice eba x.items[k].bytes.length ebc, .slice eia x.items[k].items.length eic] 54)) (lv + 1)
     (HG.out.get _ (List.getElem_mem hlt)) (by omega) hex.arg (hHr.alloc _)
    have IHH := Hh IHC;have hbr5 := hbr.alloc hbr.size (itemO x.items[k] eba ebc eia eic);have hO5 := hOr.alloc (itemO x.items[k] eba ebc eia eic);clear hfin q0 q1 q2 q3 IHC hOr;go_wp2_with fail
    refine IHH.out.mono ?_
    rintro e w6 ⟨r6, rfl, hf6⟩
    obtain ⟨SA, sc, rfl, _⟩ := hf6.own.form;have hO6 := hO5.below hf6.2;have hb6 := hbr5.trans (hf6.2.mono hbr5.size);have hlen6 := hlen5;clear hlen5;go_wp2_with (at_builtin; refine stop_in ?_)
    unfold Stopped
    obtain rfl := HV.out
    refine wpList_app_bytes rfl (.tmp 73) (.tmp 75) rfl w.heap.size _ _ rfl hO6 SA _ sc (encB x.items[k]) rfl rfl hf6.own.src hlen6 hb6.size fun v' w7 hO7 hg7 hat7 => ?_
    obtain ⟨VA', vc', rfl, _⟩ := hO7.form;have hO7' : OwnB w7 w.heap.size (.slice VA' (l.length + (encB x.items[k]).length) vc') (l ++ encB x.items[k]) := by rw [← List.length_append]; exact hO7
    have hb7 := hb6.grown hg7 hb6.size (fun q hq => (hO6.lt q hq).1);clear hlen6 hO6 hO7 hg7 hat7 hf6 IHH p0 p1 p2 p3 hO5 hbr5 hb6 hbr;go_wp2_with fail
    go_roundw
    case rel => exact ⟨k + 1, VA', vc', _, _, by omega, by go_num, rfl, hO7', by rw [List.length_append], HF.out, hb7⟩
    case measure => simp [intOf]; omega
   ·have hkk : k = x.items.length := by omega
    subst hkk;have HZ : Hid (encB x = l) := by rw [Hid, HE.out, List.drop_length, encL, List.append_nil]
    go_wp2_with fail
    go_ret
    obtain rfl := HV.out
    exact ⟨_, rfl, by rw [HZ.out]; exact ⟨hOr, hbr⟩⟩
 ·obtain ⟨b0, b1, b2, b3, b4, b5, b6, b7, b8⟩ := kinds6 hk;clear hk;go_enter Tryz.func48, Tryz.ntmps48
  go_wp2_with fail
  refine (D.out _).mono ?_
  rintro e w1 ⟨r, rfl, hf⟩
  have hB1 := hB.below hf.2;have hb1 := hb0.trans (hf.2.mono hb0.size);have c3 := hB1.cell 3 rfl;have hO1 := hf.own.more hb0.size;obtain ⟨RA, rc, rfl, _⟩ := hO1.form;clear hf;go_wp2_with fail
  go_loopw [3, 69] (fun v3 v69 wr => ∃ (k : Nat) (VA : Option Addr) (vc vn : Nat) (l : List UInt8), k ≤ x.items.length ∧ v69 = .int .i64 k ∧ v3 = .slice VA vn vc ∧ OwnB wr w.heap.size (.slice VA vn vc) l ∧ vn = l.length ∧ (encB x = l ++ encL (x.items.drop k)) ∧ Below w.heap.size w wr) (fun _ v69 _ => x.items.length - (intOf v69).toNat)
  case atStart => exact ⟨0, _, _, _, _, Nat.zero_le _, rfl, rfl, hO1, rfl, by rw [E.out]; rfl, hb1⟩
  case round =>
   obtain ⟨k, VA, vc, vn, l, hkl, rfl, rfl, hOr, hvn, hel, hbr⟩ := hrel;have HV := Hh hvn;have HE := Hh hel;clear hvn hel
   by_cases hlt : k < x.items.length
   ·have hHr : Holds wr H := hH.below hbr (Nat.le_refl _);obtain ⟨ib, io, hia, hel⟩ := HX.out.items (by omega);obtain ⟨eba, ebc, eia, eic, q0, q1, q2, q3, hex⟩ := hel.get k hlt;subst hia;have p0 := hHr.cell q0;have p1 := hHr.cell q1;have p2 := hHr.cell q2;have p3 := hHr.cell q3;have hfin : encL (x.items.drop k) = encB x.items[k] ++ encL (x.items.drop (k + 1)) := by rw [List.drop_eq_getElem_cons hlt, encL]
    have hlen5 : l.length + (encB x.items[k]).length ≤ 1099511627776 := by
     have h1 := HL2.out;rw [← List.length_append, ← E.out, HE.out, hfin] at h1
     simp only [List.length_append] at h1
     omega
    have HF : Hid (encB x = (l ++ encB x.items[k]) ++ encL (x.items.drop (k + 1))) := by rw [Hid, HE.out, hfin, List.append_assoc]
    have IHC := ih x.items[k] (cnt_items x k hlt) H _ _ eba _ ebc eia _ eic (wr.alloc (.cells #[.int .i64 x.items[k].kind, .int .u64 x.items[k].n, .slice eba x.items[k].bytes.length ebc, .slice eia x.items[k].items.length eic] 54)) (lv + 1)
     (HG.out.get _ (List.getElem_mem hlt)) (by omega) hex.arg (hHr.alloc _)
    have IHH := Hh IHC;have hbr5 := hbr.alloc hbr.size (itemO x.items[k] eba ebc eia eic);have hO5 := hOr.alloc (itemO x.items[k] eba ebc eia eic);clear hfin q0 q1 q2 q3 IHC hOr;go_wp2_with fail
    refine IHH.out.mono ?_
    rintro e w6 ⟨r6, rfl, hf6⟩
    obtain ⟨SA, sc, rfl, _⟩ := hf6.own.form;have hO6 := hO5.below hf6.2;have hb6 := hbr5.trans (hf6.2.mono hbr5.size);have hlen6 := hlen5;clear hlen5;go_wp2_with (at_builtin; refine stop_in ?_)
    unfold Stopped
    obtain rfl := HV.out
    refine wpList_app_bytes rfl (.tmp 73) (.tmp 75) rfl w.heap.size _ _ rfl hO6 SA _ sc (encB x.items[k]) rfl rfl hf6.own.src hlen6 hb6.size fun v' w7 hO7 hg7 hat7 => ?_
    obtain ⟨VA', vc', rfl, _⟩ := hO7.form;have hO7' : OwnB w7 w.heap.size (.slice VA' (l.length + (encB x.items[k]).length) vc') (l ++ encB x.items[k]) := by rw [← List.length_append]; exact hO7
    have hb7 := hb6.grown hg7 hb6.size (fun q hq => (hO6.lt q hq).1);clear hlen6 hO6 hO7 hg7 hat7 hf6 IHH p0 p1 p2 p3 hO5 hbr5 hb6 hbr;go_wp2_with fail
    go_roundw
    case rel => exact ⟨k + 1, VA', vc', _, _, by omega, by go_num, rfl, hO7', by rw [List.length_append], HF.out, hb7⟩
    case measure => simp [intOf]; omega
   ·have hkk : k = x.items.length := by omega
    subst hkk;have HZ : Hid (encB x = l) := by rw [Hid, HE.out, List.drop_length, encL, List.append_nil]
    go_wp2_with fail
    go_ret
    obtain rfl := HV.out
    exact ⟨_, rfl, by rw [HZ.out]; exact ⟨hOr, hbr⟩⟩
theorem ref_Raw (x : Itm) : RawSaid x := by
 have main : ∀ N, ∀ x : Itm, cnt x ≤ N → RawSaid x := by
  intro N
  induction N with
  | zero =>
   intro x hx
   have : 0 < cnt x := by cases x; rw [cnt]; omega
   omega
  | succ N ih =>
   intro x hx
   by_cases hk : 4 ≤ x.kind ∧ x.kind ≤ 6
   ·exact raw_more x hk fun y hy => ih y (by omega)
   ·intro H k n ba bl bc ia il ic w lv hg hl ha hH
    obtain ⟨rfl, rfl, rfl, rfl, hi⟩ := ha.eqs_;have hkk := nodeOk_kind hg.node
    rcases (by omega : (x.kind = 0 ∨ x.kind = 1) ∨ (x.kind = 2 ∨ x.kind = 3) ∨ x.kind = 7 ∨ x.kind = 8) with h | h | h | h
    ·exact raw_num x w lv h hg hi
    ·exact raw_str x w lv h hg hl hi hH
    ·exact raw_simple x w lv h hg hi
    ·exact raw_float x w h hi
 exact main _ x (Nat.le_refl _)
theorem cmp_refl : ∀ a : List UInt8, Lib.compareBytes a a = 0
 | [] => by rw [Lib.compareBytes]
 | x :: a => by rw [Lib.compareBytes, if_neg (UInt8.lt_irrefl x), if_neg (UInt8.lt_irrefl x)]; exact cmp_refl a
theorem cmp_trans : ∀ a b c : List UInt8, Lib.compareBytes a b < 0 → Lib.compareBytes b c < 0 → Lib.compareBytes a c < 0
 | [], [], c, h, _ => by rw [Lib.compareBytes] at h; omega
 | [], y :: b, [], _, h => by rw [Lib.compareBytes] at h; omega
 | [], y :: b, z :: c, _, _ => by rw [Lib.compareBytes]; omega
 | x :: a, [], c, h, _ => by rw [Lib.compareBytes] at h; omega
 | x :: a, y :: b, [], _, h => by rw [Lib.compareBytes] at h; omega
 | x :: a, y :: b, z :: c, h, k => by
  rw [Lib.compareBytes] at h k ⊢
  by_cases h1 : x < y
  ·by_cases h2 : y < z
   ·have h3 : x < z := UInt8.lt_trans h1 h2;rw [if_pos h3]; omega
   ·rw [if_neg h2] at k
    by_cases h3 : z < y
    ·rw [if_pos h3] at k; omega
    ·have e : y = z := UInt8.toNat_inj.1 (by rw [UInt8.lt_iff_toNat_lt] at h2 h3; omega);subst e;rw [if_pos h1]; omega
  ·rw [if_neg h1] at h
   by_cases h2 : y < x
   ·rw [if_pos h2] at h; omega
   ·rw [if_neg h2] at h;have e : x = y := UInt8.toNat_inj.1 (by rw [UInt8.lt_iff_toNat_lt] at h1 h2; omega);subst e
    by_cases h3 : x < z
    ·rw [if_pos h3]; omega
    ·rw [if_neg h3] at k ⊢
     by_cases h4 : z < x
     ·rw [if_pos h4] at k; omega
     ·rw [if_neg h4] at k ⊢
      exact cmp_trans a b c h k
theorem cntL_mem : ∀ {l : List Itm} {x : Itm}, x ∈ l → cnt x ≤ cntL l
 | [], x, h => by cases h
 | y :: l, x, h => by
  rw [cntL]
  rcases List.mem_cons.1 h with rfl | h
  ·omega
  ·have := cntL_mem h; omega
theorem encL_mem : ∀ {l : List Itm} {x : Itm}, x ∈ l → (encB x).length ≤ (encL l).length
 | [], x, h => by cases h
 | y :: l, x, h => by
  rw [encL, List.length_append]
  rcases List.mem_cons.1 h with rfl | h
  ·omega
  ·have := encL_mem h; omega
theorem validP_elem {m x : Itm} (h : validP m = true) (hx : x ∈ m.items) : validP x = true := by
 rw [validP_iff] at h ⊢;obtain ⟨h1, h2, h3⟩ := h
 refine ⟨(h1.items.get x hx).le (by omega), ?_, ?_⟩
 ·have := cntL_mem hx; have := cnt_eq m; omega
 ·have := encL_mem hx; have := node_enc h1.node; omega
theorem ascP_tail {a b : Itm} {l : List Itm} (h : ascP (a :: b :: l) = true) : ascP l = true := by
 match l with
 | [] => rfl
 | c :: r => rw [ascP, Bool.and_eq_true] at h; exact h.2
theorem isNaN_iff (n : Nat) : isNaN n = true ↔ n / 2 ^ 52 % 2048 = 2047 ∧ n % 2 ^ 52 ≠ 0 := by
 simp [isNaN]
theorem read_nan (n : Nat) : (Ieee.double.read n).isNaN = isNaN n := by
 rw [Bool.eq_iff_iff, isNaN_iff];have hs : Ieee.double.signWeight = 9223372036854775808 := rfl;have hb : Ieee.double.binade = 4503599627370496 := rfl;have hi : Ieee.double.infRung = 9218868437227405312 := rfl
 simp only [Nat.reducePow]
 by_cases h1 : n % Ieee.double.signWeight < Ieee.double.binade
 ·rw [show Ieee.double.read n = .number _ _ _ from if_pos h1];rw [hs, hb] at h1
  simp only [Ieee.Datum.isNaN, Bool.false_eq_true, false_iff]
  omega
 by_cases h2 : n % Ieee.double.signWeight < Ieee.double.infRung
 ·rw [show Ieee.double.read n = .number _ _ _ from (if_neg h1).trans (if_pos h2)];rw [hs, hi] at h2
  simp only [Ieee.Datum.isNaN, Bool.false_eq_true, false_iff]
  omega
 by_cases h3 : n % Ieee.double.signWeight = Ieee.double.infRung
 ·rw [show Ieee.double.read n = .infinity _ from (if_neg h1).trans ((if_neg h2).trans (if_pos h3))];rw [hs, hi] at h3
  simp only [Ieee.Datum.isNaN, Bool.false_eq_true, false_iff]
  omega
 rw [show Ieee.double.read n = .nan _ _ from (if_neg h1).trans ((if_neg h2).trans (if_neg h3))];rw [hs, hi] at h2 h3
 simp only [Ieee.Datum.isNaN, true_iff]
 omega
theorem order_self (d : Ieee.Datum) : (d.order d == some .eq) = !d.isNaN := by
 cases d with
 | nan a b => rfl
 | infinity s => cases s <;> rfl
 | number s m i =>
  simp [Ieee.Datum.order, Ieee.Datum.isNaN]
theorem order_feq (n : Nat) : (FloatKind.f64.format.order n n == some .eq) = !isNaN n := by
 show (Ieee.Datum.order (Ieee.double.read n) (Ieee.double.read n) == some .eq) = _
 rw [order_self, read_nan]
theorem order_fne (n : Nat) : (FloatKind.f64.format.order n n != some .eq) = isNaN n := by
 rw [bne, order_feq, Bool.not_not]
theorem run_f64frombits (n : Nat) (w : World) : (callFunc 91 #[.int .u64 (n : Int)]).run Tryz.prog w = .ok (.value (.float .f64 n)) w := by
 rw [run_callFunc_extern Tryz.func91 (by kernel_rfl) (by kernel_rfl) (by kernel_rfl) (e := Extern.MathFloatBits.float64frombits) (by kernel_rfl)];rfl
theorem run_f64bits (n : Nat) (w : World) : (callFunc 92 #[.float .f64 n]).run Tryz.prog w = .ok (.value (.int .u64 (n : Int))) w := by
 rw [run_callFunc_extern Tryz.func92 (by kernel_rfl) (by kernel_rfl) (by kernel_rfl) (e := Extern.MathFloatBits.float64bits) (by kernel_rfl)];rfl
theorem run_f32bits (n : Nat) (w : World) : (callFunc 94 #[.float .f32 n]).run Tryz.prog w = .ok (.value (.int .u32 (n : Int))) w := by
 rw [run_callFunc_extern Tryz.func94 (by kernel_rfl) (by kernel_rfl) (by kernel_rfl) (e := Extern.MathFloatBits.float32bits) (by kernel_rfl)];rfl
end Go.Proofs.YtmacemcajlgddaaGreatDoor
