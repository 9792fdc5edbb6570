/- squeezed. Walks: the program's message reade -/
import Derived.Test.YtlebpackbfcfeaaGreatDoorK40
import Derived.Test.YtlebpackbfcfeaaGreatDoorK25
set_option linter.unusedVariables false
set_option linter.unusedSimpArgs false
set_option maxRecDepth 100000
set_option maxHeartbeats 12800000
namespace Go.Proofs.YtlebpackbfcfeaaGreatDoor
open Go.RowKit
def PartOut (w : World) (H : Snap) (g : Nat) (l : List UInt8) (r : Except Nat (List UInt8 × Nat)) (e : Ending) (w' : World) : Prop :=
 match r with
 | .error q => ∃ (v : Option Addr) (n c : Nat) (H' : Snap) (A' : Option Addr) (c' : Nat) (l' : List UInt8), e = .returned (.slice v n c) ∧ Est w H w' H' g A' c' l' q
 | .ok (b, k) => ∃ (v : Option Addr) (c : Nat) (H' : Snap) (A' : Option Addr) (c' : Nat), e = .returned (.slice v b.length c) ∧ Est w H w' H' g A' c' (l.drop k) 0 ∧ IsBytes H' v c b
section
variable {w w' : World} {H : Snap} {g : Nat} {A : Option Addr} {c : Nat} {l : List UInt8} {q : Nat}
theorem PartOut.err {r : Except Nat (List UInt8 × Nat)} {e : Ending} {v : Option Addr} {n d : Nat} {H' : Snap} {A' : Option Addr} {c' : Nat} {l' : List UInt8} (hr : r = .error q) (he : e = .returned (.slice v n d)) (h : Est w H w' H' g A' c' l' q) : PartOut w H g l r e w' := by
 subst hr; exact ⟨v, n, d, H', A', c', l', he, h⟩
theorem PartOut.ok {r : Except Nat (List UInt8 × Nat)} {e : Ending} {v : Option Addr} {d : Nat} {b : List UInt8} {k : Nat} {H' : Snap} {A' : Option Addr} {c' : Nat} (hr : r = .ok (b, k)) (he : e = .returned (.slice v b.length d)) (h : Est w H w' H' g A' c' (l.drop k) 0) (hb : IsBytes H' v d b) : PartOut w H g l r e w' := by
 subst hr; exact ⟨v, d, H', A', c', he, h, hb⟩
theorem e_bytes (hTab : Tabs H) (hR : Rdr w g H A c l 0) : Calls Tryz.prog 48 #[.pointer (some ⟨g, 0, none⟩)] w (PartOut w H g l (bytesE l)) := by
 have hgl := hR.gt;have IT := Hh (e_item hTab hR);go_enter Tryz.func48, Tryz.ntmps48
 go_wp2_with fail
 refine IT.out.mono ?_
 intro e w2 hs
 unfold EItem at hs
 cases hp : prefixP l with
 | err q =>
  rw [hp] at hs;obtain ⟨rfl, H2, A2, c2, hd2⟩ := hs;have E : Hid (bytesE l = .error q) := by rw [Hid, bytesE, hp]
  have z : ((q : Int) == 0) = false := by have := parse_err _ _ _ _ hp; simp; omega
  have z' : ((q : Int) = 0) = False := eq_false (by have := parse_err _ _ _ _ hp; omega);have hX0 := Blk.new w2 31 #[.int .i64 0, .int .u64 0, .slice none 0 0, .slice none 0 0];have hXn : H2 w2.heap.size = none := hd2.rd.holds.none_of_ge (Nat.le_refl _);have hXl := hd2.size;have hd3 := hd2.alloc zeroO;clear hp IT;go_wp2_with (with_reducible refine stop_store ?_)
  refine stI hX0 fun w4 hX4 hg4 => ?_
  have hd4 := hd3.gb hXn hXl hgl hg4;have a1 := hd4.rd.blk.cell 1 rfl;have b0 := hX4.cell 0 rfl;have b2 := hX4.cell 2 rfl;go_wp2_with fail
  go_ret
  exact PartOut.err E.out rfl hd4
 | ok x k m =>
  rw [hp] at hs;obtain ⟨ja, jb, jc, jd, H2, A2, c2, rfl, hd2, hi2⟩ := hs;have hX0 := Blk.new w2 31 #[.int .i64 0, .int .u64 0, .slice none 0 0, .slice none 0 0];have hXn : H2 w2.heap.size = none := hd2.rd.holds.none_of_ge (Nat.le_refl _);have hXl := hd2.size;have hXg := Hh hd2.rd.gt;have hd3 := hd2.alloc zeroO;have HP := Hh hp;obtain ⟨bl, hbl⟩ : ∃ bl, x.bytes.length = bl := ⟨_, rfl⟩
  have HBL := Hh hbl;clear hp IT;go_wp2_with (with_reducible refine stop_store ?_)
  refine stI hX0 fun w4 hX4 hg4 => ?_
  have hd4 := hd3.gb hXn hXl hgl hg4;rw [hbl] at hX4;obtain ⟨kd, hkd⟩ : ∃ kd, x.kind = kd := ⟨_, rfl⟩
  rw [hkd] at hX4;have HKD := Hh hkd;have a1 := hd4.rd.blk.cell 1 rfl;have b0 := hX4.cell 0 rfl;have b2 := hX4.cell 2 rfl;have FL := Hh (e_fail hd4.rd.blk 4);rw [if_pos rfl] at FL;clear hd3 hX0 hg4 hbl hkd
  by_cases c1 : kd = 2
  case neg =>
   have c1a : (kd != 2) = true := by rw [bne_iff_ne]; exact c1
   have c1b : (kd = 2) = False := eq_false c1;have E : Hid (bytesE l = .error 4) := by rw [Hid, bytesE, HP.out]; simp only; rw [if_pos (by have h1 := HKD.out; have h2 := HBL.out; exact .inl (by rw [h1]; exact c1))]
   go_wp2_with fail
   refine FL.out.mono ?_
   rintro e w5 ⟨⟨v, rfl⟩, hB5, hG5⟩
   have hd5 := hd4.step hG5 hB5 hd4.rd.bytes;have hX5 := hX4.grown hG5 (by intro e; injection e with e; have := hXg.out; omega);clear b0 b2 a1;have b2 := hX5.cell 2 rfl;go_wp2_with fail
   go_ret
   exact PartOut.err E.out rfl hd5
  subst c1
  by_cases c2 : bl = 0
  ·subst c2;have E : Hid (bytesE l = .error 4) := by rw [Hid, bytesE, HP.out]; simp only; rw [if_pos (by have h1 := HKD.out; have h2 := HBL.out; exact .inr (.inl (by omega)))]
   go_wp2_with fail
   refine FL.out.mono ?_
   rintro e w5 ⟨⟨v, rfl⟩, hB5, hG5⟩
   have hd5 := hd4.step hG5 hB5 hd4.rd.bytes;have hX5 := hX4.grown hG5 (by intro e; injection e with e; have := hXg.out; omega);clear b0 b2 a1;have b2 := hX5.cell 2 rfl;go_wp2_with fail
   go_ret
   exact PartOut.err E.out rfl hd5
  have c2a : ¬ ((bl : Int) < 1) := by omega
  have c2b : decide ((bl : Int) < 1) = false := decide_eq_false c2a
  by_cases c3 : 64 < bl
  ·have c3a : (64 : Int) < (bl : Int) := by omega
   have c3b : decide ((64 : Int) < (bl : Int)) = true := decide_eq_true c3a;have E : Hid (bytesE l = .error 4) := by rw [Hid, bytesE, HP.out]; simp only; rw [if_pos (by have h1 := HKD.out; have h2 := HBL.out; exact .inr (.inr (by omega)))]
   go_wp2_with fail
   refine FL.out.mono ?_
   rintro e w5 ⟨⟨v, rfl⟩, hB5, hG5⟩
   have hd5 := hd4.step hG5 hB5 hd4.rd.bytes;have hX5 := hX4.grown hG5 (by intro e; injection e with e; have := hXg.out; omega);clear b0 b2 a1;have b2 := hX5.cell 2 rfl;go_wp2_with fail
   go_ret
   exact PartOut.err E.out rfl hd5
  have c3a : ¬ ((64 : Int) < (bl : Int)) := by omega
  have c3b : decide ((64 : Int) < (bl : Int)) = false := decide_eq_false c3a;have E : Hid (bytesE l = .ok (x.bytes, k)) := by rw [Hid, bytesE, HP.out]; simp only; rw [if_neg (by have h1 := HKD.out; have h2 := HBL.out; omega)]
  clear c2 c3 c2a c3a;go_wp2_with fail
  go_ret
  exact PartOut.ok E.out (by rw [HBL.out]; rfl) hd4 hi2.bytes
theorem e_conn (hR : Rdr w g H A c l 0) (hl : l.length ≤ 1099511627000) : Calls Tryz.prog 49 #[.pointer (some ⟨g, 0, none⟩)] w (PartOut w H g l (parseConn l)) := by
 have a0 := hR.blk.cell 0 rfl;have a1 := hR.blk.cell 1 rfl;have PC := Hh (trans_ParseConn (A := A) (c := c) (l := l) rfl hl hR.bytes.le hR.bytes.max w (Src.of_row hR.bytes.row hR.holds));have hd0 := Est.refl hR;have HBY := Hh hR.bytes;clear hR hl;go_enter Tryz.func49, Tryz.ntmps49
 go_wp2_with fail
 refine PC.out.mono ?_
 intro e w1 hs
 unfold ConnSaid at hs
 cases hp : parseConn l with
 | error q =>
  rw [hp] at hs;obtain ⟨rfl, hb1⟩ := hs;have hq0 : ((q : Int) != 0) = true := by rw [bne_iff_ne]; have := parseConn_err hp; omega
  have hq0' : ((q : Int) = 0) = False := eq_false (by have := parseConn_err hp; omega);have hd1 := hd0.below_ hb1;have FL := Hh (e_fail hd1.rd.blk q);rw [if_pos rfl] at FL;have HP := Hh hp;clear hp PC a0 a1 hd0;go_wp2_with fail
  refine FL.out.mono ?_
  rintro e w5 ⟨⟨v, rfl⟩, hB5, hG5⟩
  have hd5 := hd1.step hG5 hB5 hd1.rd.bytes;go_wp2_with fail
  go_ret
  exact PartOut.err HP.out rfl hd5
 | ok r =>
  obtain ⟨cn, k⟩ := r;rw [hp] at hs;obtain ⟨r, rfl, hf⟩ := hs;obtain ⟨RA, rc, rfl, _⟩ := hf.own.form;obtain ⟨H2, hG2, hb2, _⟩ := Fresh.snapB hd0.rd.holds hf;have hd2 := hd0.grown hG2;have HP := Hh (show parseConn l = .ok (cn, k) from hp);obtain ⟨hkl, hk0, _⟩ := parseConn_le hp;have hcl := HBY.out.le;have hcm := HBY.out.max;obtain ⟨b, off, rfl, _⟩ := HBY.out.at_ (by omega);have HDR0 := Hh ((HBY.out.mono hG2.le).drop k hkl);have s1 : (k : Int) ≤ (l.length : Int) := by omega
  have s2 : (l.length : Int) ≤ (c : Int) := by omega
  have s3 : (k : Int) ≤ (c : Int) := by omega
  have s4 : (0 : Int) ≤ (k : Int) := by omega
  clear hp PC a0 a1 hd0 hf hG2 hkl hk0 hcl hcm;have a0 := hd2.rd.blk.cell 0 rfl
  by_cases hck : c = k
  ·subst hck
   have HDR : Hid (IsBytes H2 (some ⟨b, off, none⟩) 0 (l.drop c)) := by
    have h := HDR0.out;rw [if_pos rfl, Nat.sub_self] at h
    exact h
   clear HDR0;go_wp2_with (with_reducible refine stop_store ?_)
   refine wpList_store_cell rfl _ _ _ rfl rfl g 0 (.slice (some ⟨b, off, none⟩) (l.length - c) 0) rfl rfl _ _ hd2.rd.blk size_bytes (by simp) rfl fun w5 hB5 hG5 => ?_
   have hB5' : Blk w5 g 70 (erC (some ⟨b, off, none⟩) (l.drop c).length 0 0) := by rw [List.length_drop]; exact hB5
   have hd5 := hd2.step hG5 hB5' HDR.out;go_wp2_with fail
   go_ret
   exact PartOut.ok HP.out rfl hd5 hb2
  ·have hckF : (c = k) = False := eq_false hck
   have HDR : Hid (IsBytes H2 (some ⟨b, off + k, none⟩) (c - k) (l.drop k)) := by
    have h := HDR0.out;rw [if_neg hck, Option.map_some, addr_add] at h
    exact h
   clear HDR0 hck;go_wp2_with (with_reducible refine stop_store ?_)
   refine wpList_store_cell rfl _ _ _ rfl rfl g 0 (.slice (some ⟨b, off + k, none⟩) (l.length - k) (c - k)) rfl rfl _ _ hd2.rd.blk size_bytes (by simp) rfl fun w5 hB5 hG5 => ?_
   have hB5' : Blk w5 g 70 (erC (some ⟨b, off + k, none⟩) (l.drop k).length (c - k) 0) := by rw [List.length_drop]; exact hB5
   have hd5 := hd2.step hG5 hB5' HDR.out;go_wp2_with fail
   go_ret
   exact PartOut.ok HP.out rfl hd5 hb2
def RestOut (w : World) (H : Snap) (g : Nat) (r : Except Nat (List Ext)) (e : Ending) (w' : World) : Prop :=
 match r with
 | .error q => ∃ (H' : Snap) (A' : Option Addr) (c' : Nat) (l' : List UInt8), e = .returned (.slice none 0 0) ∧ Est w H w' H' g A' c' l' q
 | .ok xs => ∃ (v : Option Addr) (c : Nat) (H' : Snap) (A' : Option Addr) (c' : Nat) (l' : List UInt8), e = .returned (.slice v xs.length c) ∧ Est w H w' H' g A' c' l' 0 ∧ IsRow lieE H' v c xs
theorem RestOut.err {r : Except Nat (List Ext)} {e : Ending} {H' : Snap} {A' : Option Addr} {c' : Nat} {l' : List UInt8} (hr : r = .error q) (he : e = .returned (.slice none 0 0)) (h : Est w H w' H' g A' c' l' q) : RestOut w H g r e w' := by
 subst hr; exact ⟨H', A', c', l', he, h⟩
theorem RestOut.ok {r : Except Nat (List Ext)} {e : Ending} {xs : List Ext} {v : Option Addr} {d : Nat} {H' : Snap} {A' : Option Addr} {c' : Nat} {l' : List UInt8} (hr : r = .ok xs) (he : e = .returned (.slice v xs.length d)) (h : Est w H w' H' g A' c' l' 0) (hi : IsRow lieE H' v d xs) : RestOut w H g r e w' := by
 subst hr; exact ⟨v, d, H', A', c', l', he, h, hi⟩
theorem e_ext (hTab : Tabs H) (hR : Rdr w g H A c l 0) : Calls Tryz.prog 50 #[.pointer (some ⟨g, 0, none⟩)] w (RestOut w H g (decExt l)) := by
 have a0 := hR.blk.cell 0 rfl;have a1 := hR.blk.cell 1 rfl;have DX := Hh (e_DecodeExt hTab w hR.holds hR.bytes);have hd0 := Est.refl hR;clear hR;go_enter Tryz.func50, Tryz.ntmps50
 go_wp2_with fail
 refine DX.out.mono ?_
 intro e w1 hs
 unfold ExtsOut at hs
 cases hp : decExt l with
 | error q =>
  rw [hp] at hs;obtain ⟨rfl, hb1⟩ := hs;have hd1 := hd0.below_ hb1;have FL := Hh (e_fail hd1.rd.blk q);rw [if_pos rfl] at FL;have HP := Hh hp;clear hp DX a0 a1 hd0;go_wp2_with fail
  refine FL.out.mono ?_
  rintro e w5 ⟨⟨v, rfl⟩, hB5, hG5⟩
  have hd5 := hd1.step hG5 hB5 hd1.rd.bytes;go_wp2_with fail
  go_ret
  exact RestOut.err HP.out rfl hd5
 | ok xs =>
  rw [hp] at hs;obtain ⟨VA, vc, H1, rfl, hG1, hr1⟩ := hs;have hd1 := hd0.grown hG1;have FL0 := e_fail hd1.rd.blk 0;rw [if_pos rfl] at FL0;have FL := Hh (show Calls Tryz.prog 36 #[.pointer (some ⟨g, 0, none⟩), .int .i64 0] w1 _ from FL0);have HP := Hh hp;clear hp DX a0 a1 hd0 FL0;go_wp2_with fail
  refine FL.out.mono ?_
  rintro e w5 ⟨⟨v, rfl⟩, hB5, hG5⟩
  have hd5 := hd1.step hG5 hB5 hd1.rd.bytes;go_wp2_with fail
  go_ret
  exact RestOut.ok HP.out rfl hd5 hr1
end
def IntsOut (w : World) (H : Snap) (r : Except Nat (List Int)) (e : Ending) (w' : World) : Prop :=
 match r with
 | .error q => e = .returned (.tuple #[.slice none 0 0, .int .i64 (q : Int)]) ∧ Below w.heap.size w w'
 | .ok xs => ∃ VA vc H', e = .returned (.tuple #[.slice VA xs.length vc, .int .i64 0]) ∧ Grows w H w' H' ∧ IsRow lieI H' VA vc xs
theorem IntsOut.err {w w' : World} {H : Snap} {r : Except Nat (List Int)} {e : Ending} {q : Nat} (hr : r = .error q) (he : e = .returned (.tuple #[.slice none 0 0, .int .i64 (q : Int)])) (hb : Below w.heap.size w w') : IntsOut w H r e w' := by
 subst hr; exact ⟨he, hb⟩
theorem IntsOut.ok {w w' : World} {H H' : Snap} {r : Except Nat (List Int)} {e : Ending} {xs : List Int} {VA : Option Addr} {vc : Nat} (hr : r = .ok xs) (he : e = .returned (.tuple #[.slice VA xs.length vc, .int .i64 0])) (hG : Grows w H w' H') (hi : IsRow lieI H' VA vc xs) : IntsOut w H r e w' := by
 subst hr; exact ⟨VA, vc, H', he, hG, hi⟩
theorem info_int : (Tryz.prog.info? 3).map (fun i => (i.zero, i.size, i.bytes)) = some (some (.int .i64 0), 1, 8) := by kernel_rfl
theorem suitesL_none {L : List Itm} (h : numsE L = none) : suitesL L = .error 4 := by rw [suitesL, h]
theorem suitesL_twice {L : List Itm} {l : List Int} (h : numsE L = some l) (ht : twice l = true) : suitesL L = .error 7 := by rw [suitesL, h]; simp only; rw [if_pos ht]
theorem suitesL_long {L : List Itm} {l : List Int} (h : numsE L = some l) (ht : twice l = false) (hl : 8 < l.length) : suitesL L = .error 8 := by rw [suitesL, h]; simp only; rw [if_neg (by rw [ht]; simp), if_pos hl]
theorem suitesL_ok {L : List Itm} {l : List Int} (h : numsE L = some l) (ht : twice l = false) (hl : ¬ 8 < l.length) : suitesL L = .ok l := by rw [suitesL, h]; simp only; rw [if_neg (by rw [ht]; simp), if_neg hl]
theorem e_suites {H : Snap} (w : World) (hH : Holds w H) {x : Itm} {ja : Option Addr} {jb : Nat} {jc : Option Addr} {jd : Nat} (hx : IsItem H ja jb jc jd x) (hml : x.items.length ≤ 4096) :
  Calls Tryz.prog 47 #[itemV x ja jb jc jd] w (IntsOut w H (suitesE x)) := by
 have hB := Blk.new w 31 #[.int .i64 x.kind, .int .u64 x.n, .slice ja x.bytes.length jb, .slice jc x.items.length jd];have hG := (Grows.refl hH).alloc (.cells #[.int .i64 x.kind, .int .u64 x.n, .slice ja x.bytes.length jb, .slice jc x.items.length jd] 31);have b0 := hB.cell 0 rfl;have b1 := hB.cell 1 rfl;have b2 := hB.cell 2 rfl;have b3 := hB.cell 3 rfl;have HX := Hh hx;have HML := Hh hml;clear hx hml;go_enter Tryz.func47, Tryz.ntmps47
 go_upto_if 18 with fail
 obtain ⟨kd, hkd⟩ : ∃ kd, x.kind = kd := ⟨_, rfl⟩
 obtain ⟨il, hil⟩ : ∃ il, x.items.length = il := ⟨_, rfl⟩
 have HKD := Hh (And.intro hkd hil);go_cut [4] (fun s4 wx => ∃ (LA : Option Addr) (lc ln : Nat) (L : List Itm) (Hx : Snap), s4 = .slice LA ln lc ∧ ln = L.length ∧ L.length ≤ 4096 ∧ IsRowI Hx LA lc L ∧ Grows w H wx Hx ∧ suitesE x = suitesL L)
 case first =>
  by_cases h0 : kd = 0
  ·have k0 : (x.kind == 0) = true := by rw [hkd, beq_iff_eq]; exact h0
   have k0' : (x.kind = 0) = True := eq_true (by rw [hkd]; exact h0);have E : Hid (suitesE x = suitesL [x]) := by rw [Hid]; exact suitesE_0 x (by rw [hkd]; exact h0)
   obtain ⟨H2, hG2, hl2, hr2⟩ := lit_items hG (ItemsC.one HX.out) (by simp);clear hkd hil h0;go_wp2_with fail
   go_meet
   exact ⟨_, _, _, [x], H2, rfl, rfl, by simp, by have h := hr2; simp only [size_alloc] at h; exact h, hG2, E.out⟩
  ·have k0 : (x.kind == 0) = false := by rw [hkd, beq_eq_false_iff_ne]; exact h0
   have k0' : (x.kind = 0) = False := eq_false (by rw [hkd]; exact h0)
   by_cases h4 : kd = 4
   ·have k4 : (x.kind != 4) = false := by rw [hkd, bne_eq_false_iff_eq]; exact h4
    have k4' : (x.kind = 4) = True := eq_true (by rw [hkd]; exact h4)
    by_cases h2 : il < 2
    ·have z2 : (x.items.length : Int) < 2 := by rw [hil]; omega
     have z2d : decide ((x.items.length : Int) < 2) = true := decide_eq_true z2;have E : Hid (suitesE x = .error 4) := by rw [Hid]; exact suitesE_no x (by rw [hkd]; exact h0) (.inr (by omega))
     clear hkd hil h0 h2 h4;go_wp2_with fail
     go_ret2
     exact IntsOut.err (q := 4) E.out rfl hG.below
    ·have z2 : ¬ ((x.items.length : Int) < 2) := by rw [hil]; omega
     have z2d : decide ((x.items.length : Int) < 2) = false := decide_eq_false z2;have E : Hid (suitesE x = suitesL x.items) := by rw [Hid]; exact suitesE_4 x (by rw [hkd]; exact h4) (by omega)
     have HR : Hid (IsRowI H jc jd x.items) := ⟨by have := HX.out.bounds; omega, by have := HX.out.bounds; omega, fun h => HX.out.items h⟩
     clear hkd hil h0 h2 h4;go_wp2_with fail
     go_meet
     exact ⟨_, _, _, x.items, H, rfl, rfl, HML.out, HR.out, hG, E.out⟩
   ·have k4 : (x.kind != 4) = true := by rw [hkd, bne_iff_ne]; exact h4
    have k4' : (x.kind = 4) = False := eq_false (by rw [hkd]; exact h4);have E : Hid (suitesE x = .error 4) := by rw [Hid]; exact suitesE_no x (by rw [hkd]; exact h0) (.inl (by rw [hkd]; exact h4))
    clear hkd hil h0 h4;go_wp2_with fail
    go_ret2
    exact IntsOut.err (q := 4) E.out rfl hG.below
 case rest =>
  obtain ⟨LA, lc, ln, L, Hx, rfl, rfl, hL, hr, hGx, hE⟩ := hcut;have HL := Hh hL;have HE := Hh hE;have HR := Hh hr;have hlnc : (L.length : Int) ≤ (lc : Int) := by have := hr.le; omega
  clear hG hB b0 b1 b2 b3 hL hE hr hkd hil;go_wp2_with fail
  go_loopw [5, 31] (fun v5 v31 wr => ∃ (i : Nat) (VA : Option Addr) (vc vn : Nat) (a : List Int), i ≤ L.length ∧ v31 = .int .i64 (i : Int) ∧ v5 = .slice VA vn vc ∧ vn = a.length ∧ a.length = i ∧ numsE (L.take i) = some a ∧ Grows w H wr Hx ∧ OwnX lieI 3 wr w.heap.size (.slice VA vn vc) Hx a ∧ (∀ q, (Value.slice VA vn vc).ownBlock = some q → Hx q = none)) (fun _ v31 _ => L.length - (intOf v31).toNat)
  case atStart => exact ⟨0, none, 0, 0, [], Nat.zero_le _, rfl, rfl, rfl, rfl, rfl, hGx, OwnX.nil _ _ _ _ _, by intro q hq; simp [Value.ownBlock] at hq⟩
  case round =>
   clear hGx;obtain ⟨i, VA, vc, vn, a, hi, rfl, rfl, rfl, hai, hnum, hGr, hOr, hnr⟩ := hrel;have HI := Hh hi;have HNUM := Hh hnum;have HAI := Hh hai;clear hi hnum hai
   by_cases hil : i < L.length
   ·have hii : (i : Int) < (L.length : Int) := by omega
    obtain ⟨b, off, rfl, hel⟩ := HR.out.elems (by omega);obtain ⟨ya, yb, yc, yd, q0, q1, q2, q3, hye⟩ := hel.get i hil;have p0 := hGr.holds.cell q0;have p1 := hGr.holds.cell q1;have p2 := hGr.holds.cell q2;have p3 := hGr.holds.cell q3;have HBADN := Hh (fun h => numsE_take_bad hil HNUM.out h);have HOKN := Hh (fun v h hv => numsE_take_ok (v := v) hil HNUM.out h hv);obtain ⟨y, hy⟩ : ∃ y, L[i] = y := ⟨_, rfl⟩
    rw [hy] at p0 p1 p2 p3 HBADN HOKN hye;have HIL := Hh hil;have hi63 : (i : Int) + 1 ≤ 9223372036854775807 := by have := HL.out; omega
    have hT0 := Blk.new wr 31 #[.int .i64 0, .int .u64 0, .slice none 0 0, .slice none 0 0];have hTn : Hx wr.heap.size = none := hGr.holds.none_of_ge (Nat.le_refl _);have hG1 := hGr.alloc zeroO;have hO1 := hOr.alloc zeroO;have hol := Hh (show ∀ q, (Value.slice VA a.length vc).ownBlock = some q → w.heap.size ≤ q ∧ q < wr.heap.size from fun q hq => hOr.lt q hq);have hsz := Hh hGr.size;clear hel q0 q1 q2 q3 hy hil hGr hOr;go_wp2_with (with_reducible refine stop_store ?_)
    refine stI hT0 fun w3 hT3 hg3 => ?_
    have hG3 := hG1.grownOwn hTn hsz.out hg3;have hO3 := hO1.kl hg3 (fun q hv => by have := (hol.out q hv).2; omega);have b0 := hT3.cell 0 rfl;have b1 := hT3.cell 1 rfl;have b2 := hT3.cell 2 rfl;have b3 := hT3.cell 3 rfl;have NM0 := e_number y.kind y.n ya y.bytes.length yb yc y.items.length yd w3;rw [← numE_K] at NM0;have NM := Hh NM0;clear hT0 hG1 hO1 hg3 p0 p1 p2 p3 NM0;go_wp2_with fail
    refine NM.out.mono ?_
    rintro e w4 ⟨rfl, hb4⟩
    have hG4 := hG3.below_ hb4;have hO4 := hO3.below hb4;clear NM hG3 hO3 hT3 b0 b1 b2 b3 hb4
    cases hv : numE y 65535 with
    | none =>
     have E : Hid (suitesE x = .error 4) := by rw [Hid, HE.out]; exact suitesL_none (HBADN.out (.inl hv))
     rw [numV];go_wp2_with fail
     go_ret2
     exact IntsOut.err (q := 4) E.out rfl hG4.below
    | some v =>
     rw [numV];have HV := Hh hv;clear hv
     by_cases hv0 : v < 0
     ·have v0d : decide (v < 0) = true := decide_eq_true hv0;have E : Hid (suitesE x = .error 4) := by rw [Hid, HE.out]; exact suitesL_none (HBADN.out (.inr ⟨v, HV.out, hv0⟩))
      go_wp2_with fail
      go_ret2
      exact IntsOut.err (q := 4) E.out rfl hG4.below
     ·have v0d : decide (v < 0) = false := decide_eq_false hv0;have HN2 := Hh (HOKN.out v HV.out (by omega));have hG5 := hG4.alloc (.cells #[.int .i64 v] 3);have hO5 := hO4.alloc (.cells #[.int .i64 v] 3);clear hv0 hG4 hO4;go_wp2_with (at_builtin; refine stop_in ?_)
      refine OwnX.append rfl (.tmp 46) (.tmp 48) 22 rfl Tryz.underlying22 rfl (by omega) info_int rfl hO5 _ 1 _ [.int .i64 v] [v] rfl rfl (RowC.one rfl) (Src.new _ _ _ _ rfl _ rfl) (by have := HAI.out; have := HL.out; have := HI.out; simp; omega) hG5.size fun v' w6 hO6 hg6 hat6 => ?_
      obtain ⟨VA', vc', rfl, _⟩ := hO6.form;have hn6 := own_hid3 hG5.holds hnr hat6;have hG6 := hG5.grownRow hnr (fun q hq => (hol.out q hq).1) hg6;have hlen : Hid ((a ++ [v]).length = i + 1) := by rw [Hid, List.length_append, HAI.out]; rfl
      obtain ⟨a', ha'⟩ : ∃ a', a ++ [v] = a' := ⟨_, rfl⟩
      rw [ha'] at hO6 hn6 HN2 hlen ⊢;clear ha' hG5 hO5 hg6 hat6;go_wp2_with fail
      go_roundw
      case rel => exact ⟨i + 1, VA', vc', _, a', HIL.out, by go_num, rfl, rfl, hlen.out, HN2.out, hG6, hO6, hn6⟩
      case measure => have := HIL.out; simp [intOf]; omega
   ·have hii : ¬ ((i : Int) < (L.length : Int)) := by omega
    have hid : decide ((i : Int) < (L.length : Int)) = false := decide_eq_false hii
    have HNL : Hid (numsE L = some a) := by
     have h := HNUM.out;rw [List.take_of_length_le (by omega)] at h
     exact h
    obtain ⟨H5, hl5, hh5, hf5, hz5, hir⟩ := hOr.snap hGr.holds (fun q hq => hnr q (own_of hq));have hlow : ∀ q, VA.map (·.block) = some q → w.heap.size ≤ q := fun q hq => (hOr.lt q (own_of hq)).1
    have hG5 := hGr.snap hl5 hh5 hf5 hlow;obtain ⟨an, han⟩ : ∃ an, a.length = an := ⟨_, rfl⟩
    have HAN := Hh han;have han8 : (an : Int) ≤ 4096 := by have := HL.out; have := HI.out; have := HAI.out; omega
    have hanc : (an : Int) ≤ (vc : Int) := by have := hir.le; omega
    have HIR := Hh hir
    have HAT := Hh (show 0 < an → ∃ b off, VA = some ⟨b, off, none⟩ ∧ ∀ j, j < an → wr.cell? ⟨b, off + j, none⟩ = some (.int .i64 (a.getD j 0)) from fun h0 => by
     obtain ⟨b, off, e, hc⟩ := rowI_at hir (by omega)
     exact ⟨b, off, e, fun j hj => hh5.cell (hc j (by omega))⟩)
    rw [han];clear hil han hGr hOr hnr hf5 hir hl5 hlow;go_wp2_with fail
    go_loopw [53] (fun v53 wx => wx = wr ∧ ∃ i' : Nat, i' ≤ an ∧ v53 = .int .i64 (i' : Int) ∧ (∀ p j, j < p → p < i' → a.getD j 0 ≠ a.getD p 0)) (fun v53 _ => an - (intOf v53).toNat)
    case atStart => exact ⟨rfl, 0, Nat.zero_le _, rfl, fun p j _ hp => absurd hp (by omega)⟩
    case round =>
     obtain ⟨rfl, p, hp, rfl, hne⟩ := hrel;have HNE := Hh hne;have HPP := Hh hp;clear hne hp
     by_cases hpn : p < an
     ·have hpi : (p : Int) < (an : Int) := by omega
      obtain ⟨b, off, rfl, hcell⟩ := HAT.out (by omega);have HC := Hh hcell;have q0 := hcell p hpn;obtain ⟨v, hv⟩ : ∃ v, a.getD p 0 = v := ⟨_, rfl⟩
      rw [hv] at q0;have HV := Hh hv;have HPN := Hh hpn;have hp63 : (p : Int) + 1 ≤ 9223372036854775807 := by omega
      have hp0 : (0 : Int) ≤ (p : Int) := by omega
      have hpc : (p : Int) ≤ (vc : Int) := by omega
      clear hcell hv hpn;go_wp2_with fail
      go_loopw [62] (fun v62 wx => wx = wr ∧ ∃ j : Nat, j ≤ p ∧ v62 = .int .i64 (j : Int) ∧ (∀ j', j' < j → a.getD j' 0 ≠ v)) (fun v62 _ => p - (intOf v62).toNat)
      case atStart => exact ⟨rfl, 0, Nat.zero_le _, rfl, fun j hj => absurd hj (by omega)⟩
      case round =>
       obtain ⟨rfl, j, hj, rfl, hnej⟩ := hrel;have HNEJ := Hh hnej;have HJ := Hh hj;clear hnej hj
       by_cases hjp : j < p
       ·have hjI : (j : Int) < (p : Int) := by omega
        have p0 := HC.out j (by have := HPN.out; omega);obtain ⟨u, hu⟩ : ∃ u, a.getD j 0 = u := ⟨_, rfl⟩
        rw [hu] at p0;have HU := Hh hu;have HJP := Hh hjp;have hj63 : (j : Int) + 1 ≤ 9223372036854775807 := by omega
        clear hu hjp
        by_cases huv : u = v
        ·have d1 : (u == v) = true := by rw [beq_iff_eq]; exact huv
         have d2 : (u = v) = True := eq_true huv
         have E : Hid (suitesE x = .error 7) := by
          rw [Hid, HE.out]
          exact suitesL_twice HNL.out (twice_yes HJP.out (by have := HAN.out; have := HPN.out; omega) (by rw [HU.out, HV.out]; exact huv))
         clear huv;go_wp2_with fail
         go_ret2
         exact IntsOut.err (q := 7) E.out rfl hG5.below
        ·have d1 : (u == v) = false := by rw [beq_eq_false_iff_ne]; exact huv
         have d2 : (u = v) = False := eq_false huv;have HUV := Hh huv;clear huv;go_wp2_with fail
         go_roundw
         case rel => exact ⟨by trivial, j + 1, HJP.out, by go_num, fun j' hj' => by
          rcases Nat.lt_succ_iff_lt_or_eq.1 hj' with h | h
          ·exact HNEJ.out j' h
          ·subst h; rw [HU.out]; exact HUV.out⟩
         case measure => have := HJP.out; simp [intOf]; omega
       ·have hjI : ¬ ((j : Int) < (p : Int)) := by omega
        have hjd : decide ((j : Int) < (p : Int)) = false := decide_eq_false hjI;have hje : j = p := by have := HJ.out; omega
        have HJE := Hh hje;clear hjp hje;go_wp2_with fail
        go_roundw
        case rel => exact ⟨by trivial, p + 1, HPN.out, by go_num, fun p' j' h1 h2 => by
          rcases Nat.lt_succ_iff_lt_or_eq.1 h2 with h | h
          ·exact HNE.out p' j' h1 h
          ·subst h; rw [HV.out]; exact HNEJ.out j' (by rw [HJE.out]; exact h1)⟩
        case measure => have := HPN.out; simp [intOf]; omega
     ·have hpi : ¬ ((p : Int) < (an : Int)) := by omega
      have hpd : decide ((p : Int) < (an : Int)) = false := decide_eq_false hpi
      have HTW : Hid (twice a = false) := by
       rw [Hid]
       exact twice_no fun p' j' ha hb => HNE.out p' j' ha (by have := HAN.out; have := HPP.out; omega)
      clear hpn
      by_cases h8 : 8 < an
      ·have z8 : (8 : Int) < (an : Int) := by omega
       have z8d : decide ((8 : Int) < (an : Int)) = true := decide_eq_true z8;have E : Hid (suitesE x = .error 8) := by rw [Hid, HE.out]; exact suitesL_long HNL.out HTW.out (by have := HAN.out; omega)
       clear h8;go_wp2_with fail
       go_ret2
       exact IntsOut.err (q := 8) E.out rfl hG5.below
      ·have z8 : ¬ ((8 : Int) < (an : Int)) := by omega
       have z8d : decide ((8 : Int) < (an : Int)) = false := decide_eq_false z8;have E : Hid (suitesE x = .ok a) := by rw [Hid, HE.out]; exact suitesL_ok HNL.out HTW.out (by have := HAN.out; omega)
       clear h8;go_wp2_with fail
       go_ret2
       exact IntsOut.ok E.out (by rw [HAN.out]; rfl) hG5 HIR.out
end Go.Proofs.YtlebpackbfcfeaaGreatDoor
