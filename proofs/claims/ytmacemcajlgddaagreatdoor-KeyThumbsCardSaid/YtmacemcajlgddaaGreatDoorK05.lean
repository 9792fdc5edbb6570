/- squeezed. Walks: the references' Raw. -/
import Derived.Test.YtmacemcajlgddaaGreatDoorK04
set_option linter.unusedVariables false
set_option linter.unusedSimpArgs false
set_option maxRecDepth 100000
set_option maxHeartbeats 3200000
namespace Go.Proofs.YtmacemcajlgddaaGreatDoor
open Go.RowKit
theorem ItemA.eqs_ {H : Snap} {k n : Int} {ba : Option Addr} {bl bc : Nat} {ia : Option Addr} {il ic : Nat} {x : Itm} (h : ItemA H k n ba bl bc ia il ic x) : k = x.kind ∧ n = (x.n : Int) ∧ bl = x.bytes.length ∧ il = x.items.length ∧ IsItem H ba bc ia ic x := ⟨h.1, h.2, h.3, h.4, h.5⟩
theorem Fresh.step {w w1 w2 : World} {l : List UInt8} {r : Value} (hb : Below w.heap.size w w1) (h : Fresh w1 l r w2) : Fresh w l r w2 := ⟨h.own.more hb.size, hb.trans (h.2.mono hb.size)⟩
theorem Fresh.litAt (w : World) (l : List UInt8) (cs : Array Value) (k b : Nat) (hb : b = w.heap.size) (hk : k = l.length) (hm : l.length ≤ 4096) (hc : cs.toList = l.map byteV) :
  Fresh w l (.slice (some ⟨b, 0, none⟩) k k) (w.alloc (.cells cs 5)) := by
 subst hb
 exact Fresh.lit w l cs k hk hm hc
def RawSaid (x : Itm) : Prop := ∀ (H : Snap) (k n : Int) (ba : Option Addr) (bl bc : Nat) (ia : Option Addr) (il ic : Nat) (w : World) (lv : Nat),
 Good x lv → (encB x).length ≤ 1099511627776 → ItemA H k n ba bl bc ia il ic x → Holds w H →
 Calls Tryz.prog 48 #[.agg #[.int .i64 k, .int .u64 n, .slice ba bl bc, .slice ia il ic]] w fun e w' => ∃ r, e = .returned r ∧ Fresh w (encB x) r w'
theorem enc_num {x : Itm} {lv : Nat} (h : Good x lv) (hk : x.kind = 0 ∨ x.kind = 1) : encB x = headB x.kind.toNat x.n := by
 have ho := h.node
 rcases nodeOk_cases ho with ⟨h1, h2⟩ | ⟨h1, _⟩
 ·have hi := (okPlain_items h1 h2).1;have hb : x.bytes = [] := by simp [okPlain, hk] at h2; exact h2.1
  have hn : numP x = x.n := by unfold numP; rcases hk with h | h <;> simp [h]
  rw [encB_eq, if_neg (by omega), if_neg (by omega), hi, hb, encL, hn]
  simp
 ·rw [(isPlain_iff x).2 (by omega)] at h1; cases h1
theorem enc_str {x : Itm} {lv : Nat} (h : Good x lv) (hk : x.kind = 2 ∨ x.kind = 3) : encB x = headB x.kind.toNat x.bytes.length ++ x.bytes := by
 have ho := h.node
 rcases nodeOk_cases ho with ⟨h1, h2⟩ | ⟨h1, _⟩
 ·have hi := (okPlain_items h1 h2).1;have hn : numP x = x.bytes.length := by unfold numP; rw [if_pos hk]
  rw [encB_eq, if_neg (by omega), if_neg (by omega), hi, encL, hn]
  simp
 ·rw [(isPlain_iff x).2 (by omega)] at h1; cases h1
theorem enc_more {x : Itm} {lv : Nat} (h : Good x lv) (hk : 4 ≤ x.kind ∧ x.kind ≤ 6) : encB x = headB x.kind.toNat (numP x) ++ encL x.items := by
 have ho := h.node
 rcases nodeOk_cases ho with ⟨h1, _⟩ | ⟨_, h1⟩
 ·rw [isPlain_iff] at h1; omega
 ·have hb := (frameOk_spec h1).2.2.2.1;rw [List.length_eq_zero_iff] at hb;rw [encB_eq, if_neg (by omega), if_neg (by omega), hb]
  simp
theorem enc_simple {x : Itm} {lv : Nat} (h : Good x lv) (hk : x.kind = 7) : encB x = if x.n < 24 then [u8 (224 + x.n)] else [u8 248, u8 x.n] := by
 have ho := h.node
 rcases nodeOk_cases ho with ⟨h1, h2⟩ | ⟨h1, _⟩
 ·have hi := okPlain_items h1 h2;have hn : numP x = x.n := by unfold numP; simp [hk]
  by_cases h24 : x.n < 24
  ·rw [if_pos h24, encB_eq, if_neg (by omega), if_neg (by omega), hi.1, hi.2 (by omega), encL, hn, headB, if_pos h24, hk];rfl
  ·rw [if_neg h24, encB_eq, if_neg (by omega), if_pos ⟨hk, by omega⟩]
 ·rw [(isPlain_iff x).2 (by omega)] at h1; cases h1
theorem kinds0 {k : Int} (h : k = 0) : (k == 0) = true ∧ (k == 1) = false ∧ (k == 2) = false ∧ (k == 3) = false ∧ (k == 4) = false ∧ (k == 5) = false ∧ (k == 6) = false ∧ (k == 7) = false ∧ (k == 8) = false := by
 subst h;decide
theorem kinds1 {k : Int} (h : k = 1) : (k == 0) = false ∧ (k == 1) = true ∧ (k == 2) = false ∧ (k == 3) = false ∧ (k == 4) = false ∧ (k == 5) = false ∧ (k == 6) = false ∧ (k == 7) = false ∧ (k == 8) = false := by
 subst h;decide
theorem kinds2 {k : Int} (h : k = 2) : (k == 0) = false ∧ (k == 1) = false ∧ (k == 2) = true ∧ (k == 3) = false ∧ (k == 4) = false ∧ (k == 5) = false ∧ (k == 6) = false ∧ (k == 7) = false ∧ (k == 8) = false := by
 subst h;decide
theorem kinds3 {k : Int} (h : k = 3) : (k == 0) = false ∧ (k == 1) = false ∧ (k == 2) = false ∧ (k == 3) = true ∧ (k == 4) = false ∧ (k == 5) = false ∧ (k == 6) = false ∧ (k == 7) = false ∧ (k == 8) = false := by
 subst h;decide
theorem kinds4 {k : Int} (h : k = 4) : (k == 0) = false ∧ (k == 1) = false ∧ (k == 2) = false ∧ (k == 3) = false ∧ (k == 4) = true ∧ (k == 5) = false ∧ (k == 6) = false ∧ (k == 7) = false ∧ (k == 8) = false := by
 subst h;decide
theorem kinds5 {k : Int} (h : k = 5) : (k == 0) = false ∧ (k == 1) = false ∧ (k == 2) = false ∧ (k == 3) = false ∧ (k == 4) = false ∧ (k == 5) = true ∧ (k == 6) = false ∧ (k == 7) = false ∧ (k == 8) = false := by
 subst h;decide
theorem kinds6 {k : Int} (h : k = 6) : (k == 0) = false ∧ (k == 1) = false ∧ (k == 2) = false ∧ (k == 3) = false ∧ (k == 4) = false ∧ (k == 5) = false ∧ (k == 6) = true ∧ (k == 7) = false ∧ (k == 8) = false := by
 subst h;decide
theorem kinds7 {k : Int} (h : k = 7) : (k == 0) = false ∧ (k == 1) = false ∧ (k == 2) = false ∧ (k == 3) = false ∧ (k == 4) = false ∧ (k == 5) = false ∧ (k == 6) = false ∧ (k == 7) = true ∧ (k == 8) = false := by
 subst h;decide
theorem kinds8 {k : Int} (h : k = 8) : (k == 0) = false ∧ (k == 1) = false ∧ (k == 2) = false ∧ (k == 3) = false ∧ (k == 4) = false ∧ (k == 5) = false ∧ (k == 6) = false ∧ (k == 7) = false ∧ (k == 8) = true := by
 subst h;decide
section
variable (x : Itm) {H : Snap} {ba : Option Addr} {bc : Nat} {ia : Option Addr} {ic : Nat} (w : World) (lv : Nat)
theorem raw_num (hk : x.kind = 0 ∨ x.kind = 1) (hg : Good x lv) (hx : IsItem H ba bc ia ic x) :
  Calls Tryz.prog 48 #[itemV x ba bc ia ic] w fun e w' => ∃ r, e = .returned r ∧ Fresh w (encB x) r w' := by
 have E : Hid (encB x = headB x.kind.toNat x.n) := enc_num hg hk;have h0 : 0 ≤ x.kind := by omega
 have h8 : x.kind < 8 := by omega
 have HN := Hh hx.bounds.2.2.1;have D := Hh (ref_Head x.kind (x.n : Int) (w.alloc (itemO x ba bc ia ic)) h0 h8 (by omega) (by have := HN.out; omega));have hb0 := below_box w (itemO x ba bc ia ic);rw [Int.toNat_natCast] at D;clear hx hg h0 h8
 rcases hk with hk | hk
 ·obtain ⟨b0, b1, b2, b3, b4, b5, b6, b7, b8⟩ := kinds0 hk;clear hk;go_enter Tryz.func48, Tryz.ntmps48
  go_wp2_with fail
  refine D.out.mono ?_
  rintro e w1 ⟨r, rfl, hf⟩
  go_wp2_with fail
  go_ret
  exact ⟨_, rfl, by rw [E.out]; exact hf.step hb0⟩
 ·obtain ⟨b0, b1, b2, b3, b4, b5, b6, b7, b8⟩ := kinds1 hk;clear hk;go_enter Tryz.func48, Tryz.ntmps48
  go_wp2_with fail
  refine D.out.mono ?_
  rintro e w1 ⟨r, rfl, hf⟩
  go_wp2_with fail
  go_ret
  exact ⟨_, rfl, by rw [E.out]; exact hf.step hb0⟩
theorem raw_simple (hk : x.kind = 7) (hg : Good x lv) (hx : IsItem H ba bc ia ic x) :
  Calls Tryz.prog 48 #[itemV x ba bc ia ic] w fun e w' => ∃ r, e = .returned r ∧ Fresh w (encB x) r w' := by
 have E0 := enc_simple hg hk;have HN := Hh hx.bounds.2.2.1;have hb0 := below_box w (itemO x ba bc ia ic);obtain ⟨b0, b1, b2, b3, b4, b5, b6, b7, b8⟩ := kinds7 hk;clear hx hg hk
 by_cases h24 : x.n < 24
 ·rw [if_pos h24] at E0;have E := Hh E0;have hi : (x.n : Int) < 24 := by omega
  clear E0;go_enter Tryz.func48, Tryz.ntmps48
  go_wp2_with fail
  go_ret
  refine ⟨_, rfl, ?_⟩
  rw [E.out]
  refine (Fresh.litAt (w.alloc (itemO x ba bc ia ic)) [u8 (224 + x.n)] _ 1 _ (by simp) rfl (by simp) ?_).step hb0
  simp only [List.map_cons, List.map_nil, byteV_u8]
  congr 2
  omega
 ·rw [if_neg h24] at E0;have E := Hh E0;have hi : ¬ (x.n : Int) < 24 := by omega
  clear E0;go_enter Tryz.func48, Tryz.ntmps48
  go_wp2_with fail
  go_ret
  refine ⟨_, rfl, ?_⟩
  rw [E.out]
  refine (Fresh.litAt (w.alloc (itemO x ba bc ia ic)) [u8 248, u8 x.n] _ 2 _ (by simp) rfl (by simp) ?_).step hb0
  simp only [List.map_cons, List.map_nil, byteV_u8]
  simp
theorem raw_float (hk : x.kind = 8) (hx : IsItem H ba bc ia ic x) :
  Calls Tryz.prog 48 #[itemV x ba bc ia ic] w fun e w' => ∃ r, e = .returned r ∧ Fresh w (encB x) r w' := by
 have E : Hid (encB x = floatB x.n) := by rw [Hid, encB_eq, if_pos hk]
 have D := Hh (ref_float x.n hx.bounds.2.2.1 (w.alloc (itemO x ba bc ia ic)));have hb0 := below_box w (itemO x ba bc ia ic);obtain ⟨b0, b1, b2, b3, b4, b5, b6, b7, b8⟩ := kinds8 hk;clear hx hk;go_enter Tryz.func48, Tryz.ntmps48
 go_wp2_with fail
 refine D.out.mono ?_
 rintro e w1 ⟨r, rfl, hf⟩
 go_wp2_with fail
 go_ret
 exact ⟨_, rfl, by rw [E.out]; exact hf.step hb0⟩
theorem raw_str (hk : x.kind = 2 ∨ x.kind = 3) (hg : Good x lv) (hl : (encB x).length ≤ 1099511627776) (hx : IsItem H ba bc ia ic x) (hH : Holds w H) :
  Calls Tryz.prog 48 #[itemV x ba bc ia ic] w fun e w' => ∃ r, e = .returned r ∧ Fresh w (encB x) r w' := by
 have e0 := enc_str hg hk;rw [e0, List.length_append] at hl;have E := Hh e0;have h0 : 0 ≤ x.kind := by omega
 have h8 : x.kind < 8 := by omega
 have hlb : x.bytes.length ≤ 9223372036854775807 := by have := hx.bounds; omega
 have hl' : x.bytes.length < 18446744073709551616 := by omega
 have HL := Hh hl';have KW : IntKind.u64.wrap (x.bytes.length : Int) = (x.bytes.length : Int) := IntWalk.u64_in _ (by omega);have D := fun w1 : World => ref_Head x.kind (x.bytes.length : Int) w1 h0 h8 (by omega) (by have := HL.out; omega)
 have hb0 := (below_box w (itemO x ba bc ia ic)).drew;have hB := Blk.new w 54 #[.int .i64 x.kind, .int .u64 x.n, .slice ba x.bytes.length bc, .slice ia x.items.length ic];have hB := hB.drew;have hs : Src (w.alloc (itemO x ba bc ia ic)).drew _ _ := (Src.of_row hx.bytes.row hH).alloc (itemO x ba bc ia ic)
 simp only [Int.toNat_natCast] at D
 have DD := Hh D;clear hg h0 h8 e0 hx D hl'
 rcases hk with hk | hk
 ·obtain ⟨b0, b1, b2, b3, b4, b5, b6, b7, b8⟩ := kinds2 hk;clear hk;go_enter Tryz.func48, Tryz.ntmps48
  go_upto_region 9 with fail
  refine wp_region_ways 10 (fun w' => w'.cell? ⟨w.heap.size, 0, none⟩ = some (.int .i64 x.kind) ∧ w'.cell? ⟨w.heap.size, 2, none⟩ = some (.slice ba x.bytes.length bc)) (by kernel_rfl) (⟨hB.cell 0 rfl, hB.cell 2 rfl⟩) (fun hHeld => ?_)
  refine Tk 0 rfl hHeld ?_
  refine Tk 1 rfl hHeld ?_
  refine Tk 2 rfl hHeld ?_
  refine Tk 3 rfl hHeld ?_
  refine Tk 4 rfl hHeld ?_
  refine Tk 5 rfl hHeld ?_
  refine Tk 7 rfl hHeld ?_
  refine Tk 8 rfl hHeld ?_
  refine To 6 rfl fun K hK => ?_
  go_simp
  refine (DD.out _).mono ?_
  rintro e w1 ⟨r, rfl, hf⟩
  have hB1 := hB.below hf.2;have hs1 := hs.below hf.2;have hb1 := hb0.trans (hf.2.mono hb0.size);have hz := hf.2.size;obtain ⟨RA, rc, rfl, _⟩ := hf.own.form
  refine hK.out _ _ (fun _ => ?_) (fun hHeld => ?_)
  ·exact ⟨hB1.cell 0 rfl, hB1.cell 2 rfl⟩
  clear hK K;have hHeld := hHeld (by decide)
  try simp only [Act.put, zz4, zz5, zz6]
  refine To 9 rfl fun K hK => ?_
  rw [if_pos (by rfl)]
  refine wp_app_bytes (.tmp 28) (.tmp 30) rfl w.heap.size _ _ rfl (hf.own.more hb0.size) _ x.bytes.length _ x.bytes rfl rfl hs1 (by omega) hb1.size fun v' w2 hO2 hg2 _ => ?_
  have hB2 := hB1.grown hg2 (fun h => by have := (hf.own.lt _ h).1; simp at this; omega);have hb2 := hb1.grown hg2 hb1.size (fun q hq => Nat.le_trans hb0.size (hf.own.lt q hq).1)
  refine hK.out _ _ (fun _ => ?_) (fun hHeld => ?_)
  ·exact ⟨hB2.cell 0 rfl, hB2.cell 2 rfl⟩
  clear hK K;have hHeld := hHeld (by decide)
  try simp only [Act.put, zz4, zz5, zz6]
  refine To 10 rfl fun K hK => ?_
  go_simp
  refine hK.out _ _ (fun h => absurd rfl h) (fun _ => ?_)
  clear hK K
  try simp only [Act.put, zz4, zz5, zz6]
  refine Ways.done (by kernel_rfl) ?_
  go_wp2_with fail
  go_ret
  exact ⟨_, rfl, by rw [E.out]; exact ⟨hO2, hb2⟩⟩
 ·obtain ⟨b0, b1, b2, b3, b4, b5, b6, b7, b8⟩ := kinds3 hk;clear hk;go_enter Tryz.func48, Tryz.ntmps48
  go_upto_region 9 with fail
  refine wp_region_ways 10 (fun w' => w'.cell? ⟨w.heap.size, 0, none⟩ = some (.int .i64 x.kind) ∧ w'.cell? ⟨w.heap.size, 2, none⟩ = some (.slice ba x.bytes.length bc)) (by kernel_rfl) (⟨hB.cell 0 rfl, hB.cell 2 rfl⟩) (fun hHeld => ?_)
  refine Tk 0 rfl hHeld ?_
  refine Tk 1 rfl hHeld ?_
  refine Tk 2 rfl hHeld ?_
  refine Tk 3 rfl hHeld ?_
  refine Tk 4 rfl hHeld ?_
  refine Tk 5 rfl hHeld ?_
  refine Tk 7 rfl hHeld ?_
  refine Tk 8 rfl hHeld ?_
  refine To 6 rfl fun K hK => ?_
  go_simp
  refine (DD.out _).mono ?_
  rintro e w1 ⟨r, rfl, hf⟩
  have hB1 := hB.below hf.2;have hs1 := hs.below hf.2;have hb1 := hb0.trans (hf.2.mono hb0.size);have hz := hf.2.size;obtain ⟨RA, rc, rfl, _⟩ := hf.own.form
  refine hK.out _ _ (fun _ => ?_) (fun hHeld => ?_)
  ·exact ⟨hB1.cell 0 rfl, hB1.cell 2 rfl⟩
  clear hK K;have hHeld := hHeld (by decide)
  try simp only [Act.put, zz4, zz5, zz6]
  refine To 9 rfl fun K hK => ?_
  rw [if_pos (by rfl)]
  refine wp_app_bytes (.tmp 28) (.tmp 30) rfl w.heap.size _ _ rfl (hf.own.more hb0.size) _ x.bytes.length _ x.bytes rfl rfl hs1 (by omega) hb1.size fun v' w2 hO2 hg2 _ => ?_
  have hB2 := hB1.grown hg2 (fun h => by have := (hf.own.lt _ h).1; simp at this; omega);have hb2 := hb1.grown hg2 hb1.size (fun q hq => Nat.le_trans hb0.size (hf.own.lt q hq).1)
  refine hK.out _ _ (fun _ => ?_) (fun hHeld => ?_)
  ·exact ⟨hB2.cell 0 rfl, hB2.cell 2 rfl⟩
  clear hK K;have hHeld := hHeld (by decide)
  try simp only [Act.put, zz4, zz5, zz6]
  refine To 10 rfl fun K hK => ?_
  go_simp
  refine hK.out _ _ (fun h => absurd rfl h) (fun _ => ?_)
  clear hK K
  try simp only [Act.put, zz4, zz5, zz6]
  refine Ways.done (by kernel_rfl) ?_
  go_wp2_with fail
  go_ret
  exact ⟨_, rfl, by rw [E.out]; exact ⟨hO2, hb2⟩⟩
end
end Go.Proofs.YtmacemcajlgddaaGreatDoor
