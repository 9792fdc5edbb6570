/- squeezed. Walks: reading external data: the  -/
import Derived.Test.YtlebpackbfcfeaaGreatDoorK38
import Derived.Test.YtlebpackbfcfeaaGreatDoorK20
set_option linter.unusedVariables false
set_option linter.unusedSimpArgs false
set_option maxRecDepth 100000
set_option maxHeartbeats 6400000
namespace Go.Proofs.YtlebpackbfcfeaaGreatDoor
open Go.RowKit
theorem info_ext : (Tryz.prog.info? 101).map (fun i => (i.zero, i.size, i.bytes)) = some (some (.agg #[.int .i64 0, .bool false, .slice none 0 0]), 3, 40) := by kernel_rfl
theorem size_bool : (Tryz.prog.info? 4).map (·.size) = some 1 := by kernel_rfl
theorem one2 (a b : Value) (ha : a.oneCell' = true) (hb : b.oneCell' = true) : (#[a, b] : Array Value).all (·.oneCell') = true := by simp [ha, hb]
def ExtsOut (w : World) (H : Snap) (r : Except Nat (List Ext)) (e : Ending) (w' : World) : Prop :=
 match r with
 | .error q => e = .returned (.tuple #[.slice none 0 0, .int .i64 (q : Int)]) ∧ Below w.heap.size w w'
 | .ok xs => ∃ VA vc H', e = .returned (.tuple #[.slice VA xs.length vc, .int .i64 0]) ∧ Grows w H w' H' ∧ IsRow lieE H' VA vc xs
theorem ExtsOut.err {w w' : World} {H : Snap} {r : Except Nat (List Ext)} {e : Ending} {q : Nat} (hr : r = .error q) (he : e = .returned (.tuple #[.slice none 0 0, .int .i64 (q : Int)])) (hb : Below w.heap.size w w') : ExtsOut w H r e w' := by
 subst hr; exact ⟨he, hb⟩
theorem ExtsOut.ok {w w' : World} {H H' : Snap} {r : Except Nat (List Ext)} {e : Ending} {xs : List Ext} {VA : Option Addr} {vc : Nat} (hr : r = .ok xs) (he : e = .returned (.tuple #[.slice VA xs.length vc, .int .i64 0])) (hG : Grows w H w' H') (hi : IsRow lieE H' VA vc xs) : ExtsOut w H r e w' := by
 subst hr; exact ⟨VA, vc, H', he, hG, hi⟩
theorem Grows.snap {w w' : World} {H H' H'' : Snap} {A : Option Addr} (h : Grows w H w' H') (hl : H'.le H'') (hh : Holds w' H'') (hf : ∀ b o, H'' b = some o → H' b = some o ∨ A.map (·.block) = some b)
  (hA : ∀ q, A.map (·.block) = some q → w.heap.size ≤ q) : Grows w H w' H'' :=
 ⟨h.below, h.le.trans hl, hh, fun b o hb => by
  rcases hf b o hb with h1 | h1
  ·exact h.fresh b o h1
  ·exact .inr (hA _ h1)⟩
def lenAt (w : World) (g : Nat) : Nat := match w.cell? ⟨g, 0, none⟩ with | some (.slice _ n _) => n | _ => 0
theorem lenAt_of {w : World} {g : Nat} {H : Snap} {A : Option Addr} {c : Nat} {l : List UInt8} {q : Nat} (h : Rdr w g H A c l q) : lenAt w g = l.length := by
 rw [lenAt, h.blk.cell 0 rfl]; rfl
theorem ext_has {H : Snap} {y : Ext} {d : List Value} (h : lieE.E H y d) : lieE.E H { y with has := true } (d.set 1 (.bool true)) := by
 obtain ⟨A, c, rfl, hb⟩ := h
 exact ⟨A, c, rfl, hb⟩
theorem ext_val {H : Snap} {y : Ext} {d : List Value} (h : lieE.E H y d) {A : Option Addr} {c : Nat} {v : List UInt8} (hv : IsBytes H A c v) : lieE.E H { y with val := v } (d.set 2 (.slice A v.length c)) := by
 obtain ⟨A', c', rfl, hb⟩ := h
 exact ⟨A, c, rfl, hv⟩
theorem e_DecodeExt {H : Snap} (hTab : Tabs H) (w : World) (hH : Holds w H) {A : Option Addr} {c : Nat} {l : List UInt8} (hl : IsBytes H A c l) :
  Calls Tryz.prog 66 #[.slice A l.length c] w (ExtsOut w H (decExt l)) := by
 have hB0 := Blk.new w 70 #[.slice none 0 0, .int .i64 0];have hn0 : H w.heap.size = none := hH.none_of_ge (Nat.le_refl _);have hG0 := (Grows.refl hH).alloc (.cells #[.slice none 0 0, .int .i64 0] 70);go_enter Tryz.func66, Tryz.ntmps66
 go_wp2_with (with_reducible refine stop_store ?_)
 refine wpList_store_item rfl _ _ _ rfl rfl _ _ rfl rfl _ _ hB0 size_er rfl (one2 _ _ rfl rfl) fun w1 hB1 hg1 => ?_
 have hG1 := hG0.grownOwn hn0 (Nat.le_refl _) hg1;have hR1 : Rdr w1 w.heap.size H A c l 0 := ⟨hB1, hl, hG1.holds, hn0⟩
 clear hB0 hG0 hg1 hB1;obtain ⟨g, hg⟩ : ∃ g, w.heap.size = g := ⟨_, rfl⟩
 rw [hg] at hR1 hn0 ⊢;have HG := Hh hg;have hgl := hR1.gt;have hd1 := Est.refl hR1;clear hg;go_wp2_with fail
 go_loopw [5] (fun v5 wr => ∃ (out : List Ext) (Hr : Snap) (A' : Option Addr) (c' : Nat) (l' : List UInt8) (VA : Option Addr) (vc vn : Nat), v5 = .slice VA vn vc ∧ vn = out.length ∧ Est w1 H wr Hr g A' c' l' 0 ∧
  OwnX lieE 101 wr w1.heap.size (.slice VA vn vc) Hr out ∧ (∀ q, (Value.slice VA vn vc).ownBlock = some q → Hr q = none) ∧ out.length ≤ 4 ∧ decE [] l = decE out l') (fun _ wr => lenAt wr g)
 case atStart => exact ⟨[], H, A, c, l, none, 0, 0, rfl, rfl, hd1, OwnX.nil _ _ _ _ _, by intro q hq; simp [Value.ownBlock] at hq, by simp, rfl⟩
 case round =>
  clear hd1 hR1;obtain ⟨out, Hr, A', c', l', VA, vc, vn, rfl, rfl, hdr, hOr, hnr, hl4, hrel2⟩ := hrel;have HREL := Hh hrel2;have HL4 := Hh hl4;have HLA := Hh (lenAt_of hdr.rd);have a0 := hdr.rd.blk.cell 0 rfl;clear hrel2 hl4
  by_cases h0 : l'.length = 0
  ·have zi : ¬ ((0 : Int) < (l'.length : Int)) := by omega
   have zi' : decide ((0 : Int) < (l'.length : Int)) = false := decide_eq_false zi;have E : Hid (decExt l = .ok out) := by rw [Hid, decE_start, HREL.out, decE_end h0]
   clear h0;obtain ⟨H5, hl5, hh5, hf5, hz5, hir⟩ := hOr.snap hdr.rd.holds (fun q hq => hnr q (own_of hq));have hlow : ∀ q, VA.map (·.block) = some q → w.heap.size ≤ q := fun q hq => by have := (hOr.lt q (own_of hq)).1; have := HG.out; omega
   have hGz := (hG1.trans_but hdr.grows (by have := HG.out; omega)).snap hl5 hh5 hf5 hlow;clear hOr hnr hdr hf5;go_wp2_with fail
   go_ret2
   exact ExtsOut.ok E.out rfl hGz hir
  have zi : (0 : Int) < (l'.length : Int) := by omega
  have zi' : decide ((0 : Int) < (l'.length : Int)) = true := decide_eq_true zi;have IT := Hh (e_item (hTab.mono hdr.grows.le) hdr.rd);have H0 := Hh h0;clear h0;go_wp2_with fail
  refine IT.out.mono ?_
  intro e w5 hs
  unfold EItem at hs
  cases hp : prefixP l' with
  | err q =>
   rw [hp] at hs;obtain ⟨rfl, H5, A5, c5, hd5⟩ := hs;have E : Hid (decExt l = .error q) := by rw [Hid, decE_start, HREL.out, decE_err H0.out hp]
   have hq0 : ((q : Int) != 0) = true := by rw [bne_iff_ne]; have := parse_err _ _ _ _ hp; omega
   have hq0' : ((q : Int) = 0) = False := eq_false (by have := parse_err _ _ _ _ hp; omega);have hd6 := hdr.trans hd5;have hX0 := Blk.new w5 31 #[.int .i64 0, .int .u64 0, .slice none 0 0, .slice none 0 0];have hXn : H5 w5.heap.size = none := hd6.rd.holds.none_of_ge (Nat.le_refl _);have hXl : w1.heap.size ≤ w5.heap.size := hd6.size;have hd7 := hd6.alloc zeroO;clear IT hp hdr hd5 hOr hnr HREL hd6 a0;go_wp2_with (with_reducible refine stop_store ?_)
   refine stI hX0 fun w8 hX8 hg8 => ?_
   have hd8 := hd7.gb hXn hXl hgl hg8;have a1 := hd8.rd.blk.cell 1 rfl;have hGz := (hG1.trans_but (hd8.drewN 0).grows (by have := HG.out; omega)).below;go_upto_region 6 with fail
   go_big_quiet (fail)
   go_wp2_with fail
   go_ret2
   exact ExtsOut.err E.out rfl (hG1.trans_but (hd8.drewN nq).grows (by have := HG.out; omega)).below
  | ok x k m =>
   rw [hp] at hs;obtain ⟨ja, jb, jc, jd, H5, A5, c5, rfl, hd5, hi5⟩ := hs;have hd6 := hdr.trans hd5;have hO6 := (hOr.est hd5 hgl).mono hd5.grows.le;have hon6 : ∀ q, (Value.slice VA out.length vc).ownBlock = some q → H5 q = none := fun q hq => hd5.hid (hnr q hq) (hOr.lt q hq).2
   have hX0 := Blk.new w5 31 #[.int .i64 0, .int .u64 0, .slice none 0 0, .slice none 0 0];have hXn : H5 w5.heap.size = none := hd6.rd.holds.none_of_ge (Nat.le_refl _);have hXl : w1.heap.size ≤ w5.heap.size := hd6.size;have hXg := Hh hd6.rd.gt;have hol := Hh (show ∀ q, (Value.slice VA out.length vc).ownBlock = some q → w1.heap.size ≤ q ∧ q < w5.heap.size from fun q hq => hO6.lt q hq);have hd7 := hd6.alloc zeroO;have hO7 := hO6.alloc zeroO;have HP := Hh hp;have HKP := Hh (prefix_spec hp);have HLB := Hh (show x.bytes.length ≤ 9223372036854775807 by have := hi5.bytes.le; have := hi5.bytes.max; omega);clear IT hp hdr hd5 hOr hnr hd6 hO6 a0;go_wp2_with (with_reducible refine stop_store ?_)
   refine stI hX0 fun w8 hX8 hg8 => ?_
   have hd8 := hd7.gb hXn hXl hgl hg8;have hO8 := hO7.kl hg8 (fun q hv => by have := (hol.out q hv).2; omega);obtain ⟨X, hXX⟩ : ∃ X, w5.heap.size = X := ⟨_, rfl⟩
   rw [hXX] at hX8 hXn hXl hXg hol ⊢;have a1 := hd8.rd.blk.cell 1 rfl;have b0 := hX8.cell 0 rfl;have b1 := hX8.cell 1 rfl;have b2 := hX8.cell 2 rfl;have b3 := hX8.cell 3 rfl;clear hd7 hO7 hX0 hg8 hXX;have hbel : Below w.heap.size w w8 := (hG1.trans_but hd8.grows (by have := HG.out; omega)).below
   by_cases hk2 : x.kind = 2
   ·have k2 : (x.kind == 2) = true := by rw [beq_iff_eq]; exact hk2
    have k2' : (x.kind = 2) = True := eq_true hk2;have HK2 := Hh hk2;clear hk2
    rcases List.eq_nil_or_concat out with rfl | ⟨o, y, rfl⟩
    ·have E : Hid (decExt l = .error 4) := by rw [Hid, decE_start, HREL.out, decE_val0 H0.out HP.out HK2.out]
     go_wp2_with fail
     go_ret2
     exact ExtsOut.err (q := 4) E.out rfl hbel
    ·rw [List.concat_eq_append] at *;obtain ⟨nO, hnO⟩ : ∃ nO, o.length = nO := ⟨_, rfl⟩
     have hlen : (o ++ [y]).length = nO + 1 := by rw [List.length_append, hnO]; rfl
     have HNO := Hh (And.intro hnO hlen);have hn3 : nO ≤ 3 := by have := HL4.out; omega
     rw [hlen] at hO8 hon6 hol ⊢;obtain ⟨gq, cur, dd, rfl, hbase, hBq, hsz, hEy, hcel, hset⟩ := hO8.last;obtain ⟨yl, yh, yv⟩ := y;obtain ⟨YA, yc, rfl, hyb⟩ := hEy;rw [hnO] at hcel hsz hset;have hgq := hol.out gq rfl;have q1 : w8.cell? ⟨gq, nO * 3 + 1, none⟩ = some (.bool yh) := hcel 1 _ rfl;have hform := hO8.form;have hnc : (nO : Int) + 1 ≤ (vc : Int) := by obtain ⟨_, _, e1, e2, _⟩ := hform; injection e1 with _ _ e1; subst e1; omega
     have hni : (nO : Int) ≤ 3 := by omega
     have hcast : ((nO + 1 : Nat) : Int) = (nO : Int) + 1 := by omega
     have KW : IntKind.i64.wrap (nO : Int) = (nO : Int) := IntWalk.i64_in _ (by omega);clear hcel hform hlen hnO
     cases yh with
     | true =>
      have E : Hid (decExt l = .error 4) := by rw [Hid, decE_start, HREL.out, decE_val1 H0.out HP.out HK2.out rfl]
      go_wp2_with fail
      go_ret2
      exact ExtsOut.err (q := 4) E.out rfl hbel
     | false =>
      by_cases hbig : 600 < x.bytes.length
      ·have E : Hid (decExt l = .error 8) := by rw [Hid, decE_start, HREL.out, decE_val2 H0.out HP.out HK2.out rfl hbig]
       have zb : (600 : Int) < (x.bytes.length : Int) := by omega
       have zb' : decide ((600 : Int) < (x.bytes.length : Int)) = true := decide_eq_true zb;clear hbig;go_wp2_with fail
       go_ret2
       exact ExtsOut.err (q := 8) E.out rfl hbel
      ·have HR2 : Hid (decE [] l = decE (o ++ [⟨yl, true, x.bytes⟩]) (l'.drop k)) := by rw [Hid, HREL.out, decE_val3 H0.out HP.out HK2.out rfl hbig]
       have zb : ¬ ((600 : Int) < (x.bytes.length : Int)) := by omega
       have zb' : decide ((600 : Int) < (x.bytes.length : Int)) = false := decide_eq_false zb;clear hbig;have hd8q := hd8.drewN 1;go_upto_region 12 with fail
       refine wp_region_ways 15 (fun w' => w'.cell? ⟨X, 2, none⟩ = some (.slice ja x.bytes.length jb)) (by kernel_rfl) (b2) (fun hHeld => ?_)
       refine Tk 0 rfl hHeld ?_
       refine Tk 1 rfl hHeld ?_
       refine Tk 2 rfl hHeld ?_
       refine Tk 3 rfl hHeld ?_
       refine Tk 4 rfl hHeld ?_
       refine Tk 5 rfl hHeld ?_
       refine Tk 6 rfl hHeld ?_
       refine Tk 7 rfl hHeld ?_
       refine Tk 8 rfl hHeld ?_
       refine Tk 9 rfl hHeld ?_
       refine Tk 10 rfl hHeld ?_
       refine Tk 11 rfl hHeld ?_
       refine To 12 rfl fun K hK => ?_
       refine wp_store_cell _ _ _ rfl gq (nO * 3 + 1) (.bool true) rfl rfl _ _ hBq.drew size_bool (by have : lieE.k = 3 := rfl; rw [this] at hsz; omega) rfl fun w9 hB9 hg9 => ?_
       have hO9 := hset w9 1 (.bool true) ⟨yl, true, yv⟩ (by decide) hB9 (ext_has ⟨YA, yc, rfl, hyb⟩);have hd9 := hd8q.grownRow (row := some gq) (by rintro q ⟨⟩; exact hon6 gq rfl) (by rintro q ⟨⟩; have := hgq.1; omega) hgl hg9;have hX9 := hX8.drew.grown hg9 (by intro e; injection e with e; have := hgq.2; omega);go_simp
       refine hK.out _ _ (fun _ => ?_) (fun hHeld => ?_)
       ·exact hX9.cell 2 rfl
       clear hK K;have hHeld := hHeld (by decide)
       try simp only [Act.put, zz1, zz2, zz3, zz4, zz5, zz6]
       refine Tk 13 rfl hHeld ?_
       refine Tk 14 rfl hHeld ?_
       refine To 15 rfl fun K hK => ?_
       obtain ⟨gq2, cur2, dd2, hgq2, hbase2, hBq2, hsz2, hEy2, hcel2, hset2⟩ := hO9.last;obtain rfl : gq = gq2 := by injection hgq2 with h; injection h
       refine wp_store_cell _ _ _ rfl gq (nO * 3 + 2) (.slice ja x.bytes.length jb) rfl rfl _ _ hBq2 size_bytes (by have : lieE.k = 3 := rfl; rw [this, HNO.out.1] at hsz2; omega) rfl fun w10 hB10 hg10 => ?_
       have hO10 := hset2 w10 2 _ ⟨yl, true, x.bytes⟩ (by decide) (by rw [HNO.out.1]; exact hB10) (ext_val hEy2 hi5.bytes);have hd10 := hd9.grownRow (row := some gq) (by rintro q ⟨⟩; exact hon6 gq rfl) (by rintro q ⟨⟩; have := hgq.1; omega) hgl hg10;go_simp
       refine hK.out _ _ (fun h => absurd rfl h) (fun _ => ?_)
       clear hK K
       try simp only [Act.put, zz1, zz2, zz3, zz4, zz5, zz6]
       refine Ways.done (by kernel_rfl) ?_
       have HLT := Hh (show lenAt w10 g < lenAt wr g by rw [lenAt_of hd10.rd, HLA.out, List.length_drop]; have := HKP.out.1; have := HKP.out.2.2.1; have := H0.out; omega);have hlen2 : (o ++ [(⟨yl, true, x.bytes⟩ : Ext)]).length = nO + 1 := by rw [List.length_append, HNO.out.1]; rfl
       go_wp2_with fail
       go_roundw
       case rel => exact ⟨_, H5, _, _, _, _, _, _, rfl, hlen2.symm, hd10, hO10, hon6, by have := HL4.out; have := HNO.out.2; rw [hlen2]; omega, HR2.out⟩
       case measure => exact HLT.out
   ·have k2 : (x.kind == 2) = false := by rw [beq_eq_false_iff_ne]; exact hk2
    have k2' : (x.kind = 2) = False := eq_false hk2;have NM := Hh (e_number x.kind x.n ja x.bytes.length jb jc x.items.length jd w8);rw [← numE_K] at NM;go_wp2_with fail
    refine NM.out.mono ?_
    rintro e w9 ⟨rfl, hb9⟩
    have hO9 := hO8.below hb9;have hd9 := hd8.below_ hb9;have hX9 := hX8.below hb9;have hbel9 : Below w.heap.size w w9 := (hG1.trans_but hd9.grows (by have := HG.out; omega)).below
    cases hv : numE x 65535 with
    | none =>
     have E : Hid (decExt l = .error 4) := by rw [Hid, decE_start, HREL.out, decE_num0 H0.out HP.out hk2 hv]
     rw [numV];go_wp2_with fail
     go_ret2
     exact ExtsOut.err (q := 4) E.out rfl hbel9
    | some v =>
     rw [numV]
     by_cases hl4 : out.length = 4
     ·have E : Hid (decExt l = .error 8) := by rw [Hid, decE_start, HREL.out, decE_num1 H0.out HP.out hk2 hv hl4]
      have zb : ((out.length : Int) == 4) = true := by rw [beq_iff_eq]; omega
      have zb' : ((out.length : Int) = 4) = True := eq_true (by omega);clear hl4;go_wp2_with fail
      go_ret2
      exact ExtsOut.err (q := 8) E.out rfl hbel9
     ·have zb : ((out.length : Int) == 4) = false := by rw [beq_eq_false_iff_ne]; omega
      have zb' : ((out.length : Int) = 4) = False := eq_false (by omega);have HR2 : Hid (decE [] l = decE (out ++ [⟨v, false, []⟩]) (l'.drop k)) := by rw [Hid, HREL.out, decE_num2 H0.out HP.out hk2 hv hl4]
      have HO3 := Hh (show out.length ≤ 3 by have := HL4.out; omega);clear hl4 hk2 hv;have b0 := hX9.cell 0 rfl;have hO9a := hO9.alloc (.cells #[.int .i64 v, .bool false, .slice none 0 0] 101);have hd9a := hd9.alloc (.cells #[.int .i64 v, .bool false, .slice none 0 0] 101);have hX9a := hX9.alloc (.cells #[.int .i64 v, .bool false, .slice none 0 0] 101);have hon9 : ∀ q, (Value.slice VA out.length vc).ownBlock = some q → H5 q = none := hon6;go_wp2_with (at_builtin; refine stop_in ?_)
      refine OwnX.append rfl (.tmp 64) (.tmp 67) 45 rfl Tryz.underlying45 rfl (by omega) info_ext rfl hO9a _ 1 _ [.int .i64 v, .bool false, .slice none 0 0] [⟨v, false, []⟩] rfl rfl (RowC.one ⟨none, 0, rfl, IsBytes.nil _⟩) (Src.new _ _ _ _ rfl _ rfl) (by have := HO3.out; simp; omega) (by have h1 := hX9a.lt; have h2 := hXl; omega) fun v' w10 hO10 hg10 hat10 => ?_
      obtain ⟨VA', vc', rfl, _⟩ := hO10.form;have hn10 := own_hid3 hd9a.rd.holds hon9 hat10;have hd10 := hd9a.grownRow hon9 (fun q hq => by have := (hol.out q hq).1; omega) hgl hg10;have HLT := Hh (show lenAt w10 g < lenAt wr g by rw [lenAt_of hd10.rd, HLA.out, List.length_drop]; have := HKP.out.1; have := HKP.out.2.2.1; have := H0.out; omega);have hlen2 : (out ++ [(⟨v, false, []⟩ : Ext)]).length = out.length + 1 := by rw [List.length_append]; rfl
      obtain ⟨out', hout'⟩ : ∃ o', out ++ [(⟨v, false, []⟩ : Ext)] = o' := ⟨_, rfl⟩
      rw [hout'] at hO10 hn10 HR2 hlen2 ⊢;have HLEN := Hh hlen2;clear hlen2 hout';go_wp2_with fail
      go_roundw
      case rel => exact ⟨out', H5, _, _, _, VA', vc', _, rfl, rfl, hd10, hO10, hn10, by have := HO3.out; rw [HLEN.out]; omega, HR2.out⟩
      case measure => exact HLT.out
end Go.Proofs.YtlebpackbfcfeaaGreatDoor
