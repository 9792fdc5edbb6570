/- squeezed. Walks: the reference's reader of e -/
import Derived.Test.YtlebpackbfcfeaaGreatDoorK32
set_option linter.unusedVariables false
set_option linter.unusedSimpArgs false
set_option maxRecDepth 100000
set_option maxHeartbeats 6400000
namespace Go.Proofs.YtlebpackbfcfeaaGreatDoor
open Go.RowKit
section
variable {d : Nat} {w : World} {H : Snap} {g : Nat} {A : Option Addr} {c : Nat} {l : List UInt8} {p cnt lv n : Nat}
theorem r_elem_5 (ih : RItem d) (hTab : Tabs H) (hlv : lv + 1 + d = 8) (hn : n < 18446744073709551616) (hl0 : 0 < l.length) (hP : Psr 97 w g H A c l p cnt) : Calls Tryz.prog 76 #[.pointer (some ⟨g, 0, none⟩), .int .i64 5, .int .u64 (n : Int), .int .i64 (lv : Int)] w (ItemOut 97 w H g A c l p (contP 5 d n (l.drop p) cnt)) := by
 have hgl := hP.gt;have hn0 : H w.heap.size = none := hP.holds.none_of_ge (Nat.le_refl _);have hn1 : H (w.heap.size + 1) = none := hP.holds.none_of_ge (Nat.le_succ _);have hd0 := ((Rdg.refl hP).alloc zeroO).alloc zeroO;have hT0 := (Blk.new w 31 #[.int .i64 0, .int .u64 0, .slice none 0 0, .slice none 0 0]).alloc zeroO;have hX0 := Blk.new (w.alloc zeroO) 31 #[.int .i64 0, .int .u64 0, .slice none 0 0, .slice none 0 0];rw [show (w.alloc zeroO).heap.size = w.heap.size + 1 by simp] at hX0;have HNN := Hh hn;have HLL := Hh hP.small;have HLV := Hh hlv;have hlvi : (lv : Int) ≤ 8 := by omega
 have KLV : IntKind.i64.wrap ((lv : Int) + 1) = (lv : Int) + 1 := IntWalk.i64_in _ (by omega);obtain ⟨mn, hmn⟩ : ∃ mn, min n 4294967296 = mn := ⟨_, rfl⟩
 obtain ⟨N, hN⟩ : ∃ N, 2 * mn = N := ⟨_, rfl⟩
 have hmi : min (n : Int) 4294967296 = (mn : Int) := by omega
 have KN : IntKind.u64.wrap (2 * (mn : Int)) = (N : Int) := by rw [IntKind.wrap_u64]; omega
 have HNB := Hh (show N ≤ 8589934592 by omega);have HRES : Hid (contP 5 d n (l.drop p) cnt = elR 5 n (elemP 5 (parse d) N true (l.drop p) cnt none)) := by rw [Hid, contP, cntOf, if_pos rfl, hmn, hN]
 clear hmn hN hn;go_enter Tryz.func76, Tryz.ntmps76
 go_wp2_with (with_reducible refine stop_store ?_)
 refine stI hX0 fun w4 hX4 hg4 => ?_
 have hd5 := hd0.grownRow (row := some (w.heap.size + 1)) (by rintro q ⟨⟩; exact hn1) (by rintro q ⟨⟩; exact Nat.le_succ _) hgl hg4;have hT5 := hT0.gr hg4 (by omega);clear hd0 hT0 hX0 hg4;obtain ⟨X, hXX⟩ : ∃ X, w.heap.size + 1 = X := ⟨_, rfl⟩
 have hlt3 : Hid (w.heap.size < X) := by rw [Hid]; omega
 rw [hXX] at hX4 hn1 ⊢;clear hXX;go_wp2_with fail
 go_loopw [12, 13, 14] (fun v12 v13 v14 wr => ∃ (i : Nat) (Hr : Snap) (VA : Option Addr) (vc vn : Nat) (L : List Itm) (k0 cc : Nat) (last : Option (List UInt8)) (KB : Option Addr) (kn kc : Nat) , v14 = .int .u64 (i : Int) ∧ v12 = .slice VA vn vc ∧ v13 = .slice KB kn kc ∧ ((i = 0 ∧ last = none) ∨ (0 < i ∧ ∃ key : List UInt8, last = some key ∧ kn = key.length ∧ key.length ≤ 4096 ∧ IsBytes Hr KB kc key)) ∧ i ≤ N ∧ vn = L.length ∧
  Rdg 97 w H wr Hr g A c l (p + k0) cc ∧ Blk wr w.heap.size 31 #[.int .i64 0, .int .u64 0, .slice none 0 0, .slice none 0 0] ∧ Hr w.heap.size = none ∧
  Blk wr X 31 #[.int .i64 5, .int .u64 0, .slice none 0 0, .slice none 0 0] ∧ Hr X = none ∧ OwnI wr (X + 1) (.slice VA vn vc) Hr L ∧ (∀ q, (Value.slice VA vn vc).ownBlock = some q → Hr q = none) ∧ L.length ≤ cc ∧
  elemP 5 (parse d) N true (l.drop p) cnt none = (elemP 5 (parse d) (N - i) (decide (i % 2 = 0)) (l.drop (p + k0)) cc last).pre L k0) (fun _ _ v14 _ => N - (intOf v14).toNat)
 case atStart => exact ⟨0, H, none, 0, 0, [], 0, cnt, none, none, 0, 0, rfl, rfl, rfl, .inl ⟨rfl, rfl⟩, Nat.zero_le _, rfl, hd5, hT5, hn0, hX4, hn1, OwnI.nil _ _ H, by intro q hq; simp [Value.ownBlock] at hq, by simp, by rw [pre_nil]; rfl⟩
 case round =>
  clear hd5 hT5 hX4;obtain ⟨i, Hr, VA, vc, vn, L, k0, cc, last, KB, kn, kc, rfl, rfl, rfl, hlast, hin, rfl, hdr, hTr, hTn, hXr, hXrn, hOr, hnr, hLc, hrel2⟩ := hrel;have HREL := Hh hrel2;have HLC := Hh hLc;have HIN := Hh hin;have HLAST := Hh hlast;clear hrel2 hLc hin hlast
  by_cases hi0 : i < N
  ·obtain ⟨m1, hm1⟩ : ∃ m1, N - i = m1 + 1 := ⟨N - i - 1, by omega⟩
   have HM1 := Hh (show N - (i + 1) = m1 by omega);have HREL2 : Hid (elemP 5 (parse d) N true (l.drop p) cnt none = (elemP 5 (parse d) (m1 + 1) (decide (i % 2 = 0)) (l.drop (p + k0)) cc last).pre L k0) := by rw [Hid, HREL.out, hm1]
   obtain ⟨P1, hP1⟩ : ∃ P1, p + k0 = P1 := ⟨_, rfl⟩
   have HPP1 := Hh hP1;rw [hP1] at hdr HREL2;clear hP1;have hmi1 : (i : Int) < (N : Int) := by omega
   have IT := ih wr Hr g A c l P1 cc (lv + 1) (hTab.mono hdr.grows.le) hlv hdr.psr;rw [show ((lv + 1 : Nat) : Int) = (lv : Int) + 1 by omega] at IT;have ITH := Hh IT;clear hm1 HREL IT;go_wp2_with fail
   refine ITH.out.mono ?_
   intro e w5 hs
   cases hp : parse d (l.drop P1) cc with
   | err q =>
    rw [hp, ItemOut] at hs;obtain ⟨rfl, H5, p5, cnt5, hd35⟩ := hs;have hq0 : ((q : Int) != 0) = true := by rw [bne_iff_ne]; have := parse_err _ _ _ _ hp; omega
    have hq0' : ((q : Int) = 0) = False := eq_false (by have := parse_err _ _ _ _ hp; omega);have E : Hid (contP 5 d n (l.drop p) cnt = .err q) := by rw [Hid, HRES.out, HREL2.out, elem_err L k0 hp]; rfl
    have hd6 := hdr.trans hd35;have hT6 := hTr.rdg hd35 (by omega);have hn6 := hd35.hid hTn hTr.lt;have hY := Blk.new w5 31 #[.int .i64 0, .int .u64 0, .slice none 0 0, .slice none 0 0];have hYn : H5 w5.heap.size = none := hd6.psr.holds.none_of_ge (Nat.le_refl _);have hTl := Hh hT6.lt;have hd7 := hd6.alloc zeroO;have hT7 := hT6.alloc zeroO;clear ITH hp hdr hd35 hTr hXr hOr hnr HREL2 HLC hd6 hT6;go_wp2_with (with_reducible refine stop_store ?_)
    refine stI hY fun w8 hY8 hg8 => ?_
    have hd8 := hd7.gb hYn (Nat.le_of_lt hTl.out) hgl hg8;have hT8 := hT7.grown hg8 (by intro e; injection e with e; have := hTl.out; omega);clear hd7 hT7 hY hg8 hY8;go_wp2_with (with_reducible refine stop_store ?_)
    refine stI hT8 fun wz hTy hgz => ?_
    have hdz := hd8.gb hn6 (Nat.le_refl _) hgl hgz;go_wp2_with fail
    refine ret_row_tmp rfl rfl hTy rfl rfl size_item rfl ?_
    exact ItemOut.err E.out rfl hdz
   | ok x k c1 =>
    rw [hp, ItemOut] at hs;obtain ⟨ja, jb, jc, jd, H5, rfl, hd35, hi5⟩ := hs;have HCC := Hh (parse_counts d _ _ _ _ _ hp);have hd6 := hdr.trans hd35;have hc6 := hd6.psr.cnt_le;have hT6 := hTr.rdg hd35 (by omega);have hn6 := hd35.hid hTn hTr.lt;have hX6 := hXr.rdg hd35 (by have := hlt3.out; omega);have hXn6 := hd35.hid hXrn hXr.lt;have hO6 := (hOr.rdg hd35 (by have := hlt3.out; omega)).mono hd35.grows.le;have hon6 : ∀ q, (Value.slice VA L.length vc).ownBlock = some q → H5 q = none := fun q hq => hd35.hid (hnr q hq) (hOr.lt q hq).2
    have hLE5 := Hh hd35.grows.le;have hY := Blk.new w5 31 #[.int .i64 0, .int .u64 0, .slice none 0 0, .slice none 0 0];have hYn : H5 w5.heap.size = none := hd6.psr.holds.none_of_ge (Nat.le_refl _);have hTl := Hh (And.intro hT6.lt hX6.lt);have hol := Hh (show ∀ q, (Value.slice VA L.length vc).ownBlock = some q → X + 1 ≤ q ∧ q < w5.heap.size from fun q hq => hO6.lt q hq);have hd7 := hd6.alloc zeroO;have hT7 := hT6.alloc zeroO;have hX7 := hX6.alloc zeroO;have hO7 := hO6.alloc zeroO;have HLN := Hh (show L.length ≤ 256 by have := HCC.out; have := HLC.out; omega);have HP_ := Hh hp;clear ITH hp hdr hd35 hTr hXr hOr hnr hd6 hT6 hX6 hO6;go_wp2_with (with_reducible refine stop_store ?_)
    refine stI hY fun w8 hY8 hg8 => ?_
    have hd8 := hd7.gb hYn (Nat.le_of_lt hTl.out.1) hgl hg8;have hT8 := hT7.grown hg8 (by intro e; injection e with e; have := hTl.out.1; omega);have hX8 := hX7.grown hg8 (by intro e; injection e with e; have := hTl.out.2; omega);have hO8 := hO7.kl hg8 (fun q hv => by have := (hol.out q hv).2; omega);obtain ⟨Y1, hY1⟩ : ∃ Y1, w5.heap.size = Y1 := ⟨_, rfl⟩
    rw [hY1] at hY8 hTl hYn hol ⊢;have b0 := hY8.cell 0 rfl;have b1 := hY8.cell 1 rfl;have b2 := hY8.cell 2 rfl;have b3 := hY8.cell 3 rfl;clear hd7 hT7 hX7 hO7 hY hg8 hY1;have HSP := Hh (parse_spec d _ _ _ _ _ HP_.out)
    by_cases hev : i % 2 = 0
    ·have ev1 : ((i : Int) % 2 == 0) = true := by rw [beq_iff_eq]; omega
     have ev2 : ((i : Int) % 2 = 0) = True := eq_true (by omega);have ev3 : ((i : Int).tmod 2 == 0) = true := by rw [beq_iff_eq, Int.tmod_eq_emod_of_nonneg (by omega)]; omega
     have ev4 : ((i : Int).tmod 2 = 0) = True := eq_true (by rw [Int.tmod_eq_emod_of_nonneg (by omega)]; omega);have HEV := Hh hev;obtain ⟨key, hkey⟩ : ∃ key, (l.drop P1).take k = key := ⟨_, rfl⟩
     have HKEY := Hh hkey;have HKL : Hid (key.length ≤ 4096) := by rw [Hid, ← hkey, List.length_take, List.length_drop]; have := HLL.out; omega
     have HENC : Hid (encB x = key) := by rw [Hid, ← hkey]; exact HSP.out.enc
     have RW0 := ref_Raw x H5 x.kind x.n ja x.bytes.length jb jc x.items.length jd w8 (lv + 1) (HSP.out.good (lv + 1) (by have := HLV.out; omega)) (by rw [HENC.out]; have := HKL.out; omega) hi5.arg hd8.psr.holds;rw [HENC.out] at RW0;have RW := Hh RW0;clear hev hkey RW0;go_wp2_with fail
     refine RW.out.mono ?_
     rintro e w9 ⟨r, rfl, hf9⟩
     obtain ⟨KA, kac, rfl, _⟩ := hf9.own.form;obtain ⟨H6, hG6, hi6, _⟩ := Fresh.snapB hd8.psr.holds hf9;have hd12 := hd8.grown hG6;have hT12 := hT8.below hf9.2;have hX12 := hX8.below hf9.2;have hY12 := hY8.below hf9.2;have hO12 := (hO8.below hf9.2).mono hG6.le;have hn12 := hG6.none hn6 hT8.lt;have hXn12 := hG6.none hXn6 hX8.lt;have hon12 : ∀ q, (Value.slice VA L.length vc).ownBlock = some q → H6 q = none := fun q hq => hG6.none (hon6 q hq) (hO8.lt q hq).2
     have hi5' := hi5.mono hG6.le;have hLE6 := Hh (hLE5.out.trans hG6.le);clear RW hf9 hG6 hd8 hT8 hX8 hY8 hO8 hn6 hXn6 hon6 b0 b1 b2 b3 hi5;have b0 := hY12.cell 0 rfl;have b1 := hY12.cell 1 rfl;have b2 := hY12.cell 2 rfl;have b3 := hY12.cell 3 rfl
     rcases HLAST.out with ⟨hiz, rfl⟩ | ⟨hi, lk, rfl, hkn, hkl, hsl⟩
     ·have HKN : Hid (keyP none ((l.drop P1).take k) = none) := rfl;have hii0 : ¬ ((0 : Int) < (i : Int)) := by omega
      have hii0' : decide ((0 : Int) < (i : Int)) = false := decide_eq_false hii0;clear hiz
      have HC2 : Hid ((L ++ [x]).length ≤ c1) := by
       have := HCC.out;have := HLC.out;rw [Hid, List.length_append]; simp; omega
      have hd9 := hd12.alloc (.cells (itemC x ja jb jc jd).toArray 31);have hT9 := hT12.alloc (.cells (itemC x ja jb jc jd).toArray 31);have hX9 := hX12.alloc (.cells (itemC x ja jb jc jd).toArray 31);have hO9 := hO12.alloc (.cells (itemC x ja jb jc jd).toArray 31);go_wp2_with (at_builtin; refine stop_in ?_)
      refine wpList_app_items rfl (.tmp 75) (.tmp 77) rfl (X + 1) (.slice VA L.length vc) H6 _ rfl hO9 _ 1 _ (itemC x ja jb jc jd) [x] rfl rfl (ItemsC.one hi5') (Src.new _ _ _ _ rfl _ rfl) (by have := HLN.out; simp; omega) hX9.lt fun v' w10 hO10 hg10 hat10 => ?_
      obtain ⟨VA', vc', rfl, _⟩ := hO10.form;have hT10 := hT9.grown hg10 (fun e => by have := (hol.out _ e).1; have := hlt3.out; omega);have hX10 := hX9.grown hg10 (fun e => by have := (hol.out _ e).1; omega);have hn10 := own_hid3 hd9.psr.holds hon12 hat10;have hd10 := hd9.grownRow hon12 (fun q hq => by have := (hol.out q hq).1; have := hlt3.out; omega) hgl hg10;obtain ⟨L', hL'⟩ : ∃ L', L ++ [x] = L' := ⟨_, rfl⟩
      rw [hL'] at hO10 hn10 HC2 ⊢;have HR2 := Hh (show elemP 5 (parse d) N true (l.drop p) cnt none = (elemP 5 (parse d) m1 (decide ((i + 1) % 2 = 0)) (l.drop (p + (k0 + k))) c1 (some key)).pre (L ++ [x]) (k0 + k) by rw [HREL2.out, elem_ok_key L k0 HP_.out rfl (by have := HEV.out; simp; omega) HKN.out, List.drop_drop, HKEY.out, ← HPP1.out, Nat.add_assoc, show decide ((i + 1) % 2 = 0) = false by have := HEV.out; simp; omega]);rw [hL'] at HR2;have hLL2 : L.length + 1 = L'.length := by rw [← hL']; simp
      try rw [hLL2]
      clear hL' hd9 hT9 hX9 hO9 hg10 hat10 b0 b1 b2 b3 hLL2;have KI : IntKind.u64.wrap ((i : Int) + 1) = (i : Int) + 1 := by rw [IntKind.wrap_u64]; have := HNB.out; omega
      rw [show P1 + k = p + (k0 + k) by have := HPP1.out; omega] at hd10;have hmi2 := Hh hmi1;clear hmi1;go_wp2_with fail
      go_roundw
      case rel => exact ⟨i + 1, H6, VA', vc', _, L', k0 + k, c1, some key, KA, _, _, by first | rfl | (simp; done) | go_num, rfl, rfl, .inr ⟨by omega, key, rfl, rfl, HKL.out, hi6⟩, by have := hmi2.out; omega, rfl, hd10, hT10, hn12, hX10, hXn12, hO10, hn10, HC2.out, by rw [HM1.out]; exact HR2.out⟩
      case measure => have := hmi2.out; simp [intOf]; omega
     ·have hii0 : (0 : Int) < (i : Int) := by omega
      have hii0' : decide ((0 : Int) < (i : Int)) = true := decide_eq_true hii0;have CM := Hh (fun (W : World) (hW : Holds W H6) => ref_Compare W KB KA lk key kn key.length kc kac hkn rfl (by omega) (by have := HKL.out; omega) (Src.of_row (hsl.mono hLE6.out).row hW) (Src.of_row hi6.row hW));obtain ⟨q, hq⟩ : ∃ q, Lib.compareBytes lk key = q := ⟨_, rfl⟩
      rw [hq] at CM;have HQ := Hh hq;clear hkn hkl hsl hq
      by_cases hq0 : q = 0
      ·subst hq0
       have HKN : Hid (keyP (some lk) ((l.drop P1).take k) = some 7) := by
        rw [Hid, HKEY.out, keyP, if_pos (by rw [(cmp_zero lk key).1 HQ.out]; exact cmp_refl key)]
       go_wp2_with fail
       refine (CM.out _ hd12.psr.holds).mono ?_
       rintro e w10 ⟨rfl, hb10⟩
       have hd13 := hd12.below_ hb10;have hT13 := hT12.below hb10;have E : Hid (contP 5 d n (l.drop p) cnt = .err 7) := by rw [Hid, HRES.out, HREL2.out, elem_key L k0 HP_.out rfl (by have := HEV.out; simp; omega) HKN.out]; rfl
       go_wp2_with (with_reducible refine stop_store ?_)
       refine stI hT13 fun wz hTy hgz => ?_
       have hdz := hd13.gb hn12 (Nat.le_refl _) hgl hgz;go_wp2_with fail
       refine ret_row_tmp rfl rfl hTy rfl rfl size_item rfl ?_
       exact ItemOut.err (q := 7) E.out rfl hdz
      ·have t0 : (q == 0) = false := by simpa using hq0
       have t0' : (q = 0) = False := eq_false hq0
       by_cases hq1 : q < 0
       ·have HKN : Hid (keyP (some lk) ((l.drop P1).take k) = none) := by
         rw [Hid, HKEY.out, keyP, if_neg (fun h => hq0 (by rw [← HQ.out, (cmp_zero key lk).1 h]; exact cmp_refl lk)), if_neg (fun h => by
          have h1 := HQ.out;have h2 := cmp_trans lk key lk (by omega) h;rw [cmp_refl] at h2
          omega)]
        have t1 : ¬ ((0 : Int) < q) := by omega
        have t1' : decide ((0 : Int) < q) = false := decide_eq_false t1;clear hq0 hq1;go_wp2_with fail
        refine (CM.out _ hd12.psr.holds).mono ?_
        rintro e w10 ⟨rfl, hb10⟩
        have hd13 := hd12.below_ hb10;have hT13 := hT12.below hb10;have hX13 := hX12.below hb10;have hY13 := hY12.below hb10;have hO13 := hO12.below hb10;clear hd12 hT12 hX12 hY12 hO12 hb10 b0 b1 b2 b3;go_wp2_with fail
        refine (CM.out _ hd13.psr.holds).mono ?_
        rintro e w11 ⟨rfl, hb11⟩
        have hd14 := hd13.below_ hb11;have hT14 := hT13.below hb11;have hX14 := hX13.below hb11;have hY14 := hY13.below hb11;have hO14 := hO13.below hb11;clear hd13 hT13 hX13 hY13 hO13 hb11 CM;have b0 := hY14.cell 0 rfl;have b1 := hY14.cell 1 rfl;have b2 := hY14.cell 2 rfl;have b3 := hY14.cell 3 rfl
        have HC2 : Hid ((L ++ [x]).length ≤ c1) := by
         have := HCC.out;have := HLC.out;rw [Hid, List.length_append]; simp; omega
        have hd9 := hd14.alloc (.cells (itemC x ja jb jc jd).toArray 31);have hT9 := hT14.alloc (.cells (itemC x ja jb jc jd).toArray 31);have hX9 := hX14.alloc (.cells (itemC x ja jb jc jd).toArray 31);have hO9 := hO14.alloc (.cells (itemC x ja jb jc jd).toArray 31);go_wp2_with (at_builtin; refine stop_in ?_)
        refine wpList_app_items rfl (.tmp 75) (.tmp 77) rfl (X + 1) (.slice VA L.length vc) H6 _ rfl hO9 _ 1 _ (itemC x ja jb jc jd) [x] rfl rfl (ItemsC.one hi5') (Src.new _ _ _ _ rfl _ rfl) (by have := HLN.out; simp; omega) hX9.lt fun v' w10 hO10 hg10 hat10 => ?_
        obtain ⟨VA', vc', rfl, _⟩ := hO10.form;have hT10 := hT9.grown hg10 (fun e => by have := (hol.out _ e).1; have := hlt3.out; omega);have hX10 := hX9.grown hg10 (fun e => by have := (hol.out _ e).1; omega);have hn10 := own_hid3 hd9.psr.holds hon12 hat10;have hd10 := hd9.grownRow hon12 (fun q hq => by have := (hol.out q hq).1; have := hlt3.out; omega) hgl hg10;obtain ⟨L', hL'⟩ : ∃ L', L ++ [x] = L' := ⟨_, rfl⟩
        rw [hL'] at hO10 hn10 HC2 ⊢;have HR2 := Hh (show elemP 5 (parse d) N true (l.drop p) cnt none = (elemP 5 (parse d) m1 (decide ((i + 1) % 2 = 0)) (l.drop (p + (k0 + k))) c1 (some key)).pre (L ++ [x]) (k0 + k) by rw [HREL2.out, elem_ok_key L k0 HP_.out rfl (by have := HEV.out; simp; omega) HKN.out, List.drop_drop, HKEY.out, ← HPP1.out, Nat.add_assoc, show decide ((i + 1) % 2 = 0) = false by have := HEV.out; simp; omega]);rw [hL'] at HR2;have hLL2 : L.length + 1 = L'.length := by rw [← hL']; simp
        try rw [hLL2]
        clear hL' hd9 hT9 hX9 hO9 hg10 hat10 b0 b1 b2 b3 hLL2;have KI : IntKind.u64.wrap ((i : Int) + 1) = (i : Int) + 1 := by rw [IntKind.wrap_u64]; have := HNB.out; omega
        rw [show P1 + k = p + (k0 + k) by have := HPP1.out; omega] at hd10;have hmi2 := Hh hmi1;clear hmi1;go_wp2_with fail
        go_roundw
        case rel => exact ⟨i + 1, H6, VA', vc', _, L', k0 + k, c1, some key, KA, _, _, by first | rfl | (simp; done) | go_num, rfl, rfl, .inr ⟨by omega, key, rfl, rfl, HKL.out, hi6⟩, by have := hmi2.out; omega, rfl, hd10, hT10, hn12, hX10, hXn12, hO10, hn10, HC2.out, by rw [HM1.out]; exact HR2.out⟩
        case measure => have := hmi2.out; simp [intOf]; omega
       ·have HKN : Hid (keyP (some lk) ((l.drop P1).take k) = some 6) := by
         rw [Hid, HKEY.out, keyP, if_neg (fun h => hq0 (by rw [← HQ.out, (cmp_zero key lk).1 h]; exact cmp_refl lk)), if_pos (cmp_not lk key (by rw [HQ.out]; exact hq0) (by rw [HQ.out]; exact hq1))]
        have t1 : (0 : Int) < q := by omega
        have t1' : decide ((0 : Int) < q) = true := decide_eq_true t1;clear hq0 hq1;go_wp2_with fail
        refine (CM.out _ hd12.psr.holds).mono ?_
        rintro e w10 ⟨rfl, hb10⟩
        have hd13 := hd12.below_ hb10;have hT13 := hT12.below hb10;clear hd12 hT12 hX12 hY12 hO12 hb10 b0 b1 b2 b3;go_wp2_with fail
        refine (CM.out _ hd13.psr.holds).mono ?_
        rintro e w11 ⟨rfl, hb11⟩
        have hd14 := hd13.below_ hb11;have hT14 := hT13.below hb11;clear hd13 hT13 hb11 CM;have E : Hid (contP 5 d n (l.drop p) cnt = .err 6) := by rw [Hid, HRES.out, HREL2.out, elem_key L k0 HP_.out rfl (by have := HEV.out; simp; omega) HKN.out]; rfl
        go_wp2_with (with_reducible refine stop_store ?_)
        refine stI hT14 fun wz hTy hgz => ?_
        have hdz := hd14.gb hn12 (Nat.le_refl _) hgl hgz;go_wp2_with fail
        refine ret_row_tmp rfl rfl hTy rfl rfl size_item rfl ?_
        exact ItemOut.err (q := 6) E.out rfl hdz
    ·have ev1 : ((i : Int) % 2 == 0) = false := by rw [beq_eq_false_iff_ne]; omega
     have ev2 : ((i : Int) % 2 = 0) = False := eq_false (by omega);have ev3 : ((i : Int).tmod 2 == 0) = false := by rw [beq_eq_false_iff_ne, Int.tmod_eq_emod_of_nonneg (by omega)]; omega
     have ev4 : ((i : Int).tmod 2 = 0) = False := eq_false (by rw [Int.tmod_eq_emod_of_nonneg (by omega)]; omega);have HEV := Hh hev
     have HLAST2 : Hid ((i + 1 = 0 ∧ last = none) ∨ (0 < i + 1 ∧ ∃ key : List UInt8, last = some key ∧ kn = key.length ∧ key.length ≤ 4096 ∧ IsBytes H5 KB kc key)) := by
      rcases HLAST.out with ⟨hiz, _⟩ | ⟨hi, lk, e1, e2, e3, e4⟩
      ·exact absurd hiz (by omega)
      ·exact .inr ⟨by omega, lk, e1, e2, e3, e4.mono hLE5.out⟩
     clear hev
     have HC2 : Hid ((L ++ [x]).length ≤ c1) := by
      have := HCC.out;have := HLC.out;rw [Hid, List.length_append]; simp; omega
     have hd9 := hd8.alloc (.cells (itemC x ja jb jc jd).toArray 31);have hT9 := hT8.alloc (.cells (itemC x ja jb jc jd).toArray 31);have hX9 := hX8.alloc (.cells (itemC x ja jb jc jd).toArray 31);have hO9 := hO8.alloc (.cells (itemC x ja jb jc jd).toArray 31);go_wp2_with (at_builtin; refine stop_in ?_)
     refine wpList_app_items rfl (.tmp 75) (.tmp 77) rfl (X + 1) (.slice VA L.length vc) H5 _ rfl hO9 _ 1 _ (itemC x ja jb jc jd) [x] rfl rfl (ItemsC.one hi5) (Src.new _ _ _ _ rfl _ rfl) (by have := HLN.out; simp; omega) hX9.lt fun v' w10 hO10 hg10 hat10 => ?_
     obtain ⟨VA', vc', rfl, _⟩ := hO10.form;have hT10 := hT9.grown hg10 (fun e => by have := (hol.out _ e).1; have := hlt3.out; omega);have hX10 := hX9.grown hg10 (fun e => by have := (hol.out _ e).1; omega);have hn10 := own_hid3 hd9.psr.holds hon6 hat10;have hd10 := hd9.grownRow hon6 (fun q hq => by have := (hol.out q hq).1; have := hlt3.out; omega) hgl hg10;obtain ⟨L', hL'⟩ : ∃ L', L ++ [x] = L' := ⟨_, rfl⟩
     rw [hL'] at hO10 hn10 HC2 ⊢;have HR2 := Hh (show elemP 5 (parse d) N true (l.drop p) cnt none = (elemP 5 (parse d) m1 (decide ((i + 1) % 2 = 0)) (l.drop (p + (k0 + k))) c1 last).pre (L ++ [x]) (k0 + k) by rw [HREL2.out, elem_ok L k0 HP_.out (by have := HEV.out; simp; omega), List.drop_drop, ← HPP1.out, Nat.add_assoc, show decide (i % 2 = 0) = false by have := HEV.out; simp; omega, show decide ((i + 1) % 2 = 0) = true by have := HEV.out; simp; omega]; rfl);rw [hL'] at HR2;have hLL2 : L.length + 1 = L'.length := by rw [← hL']; simp
     try rw [hLL2]
     clear hL' hd9 hT9 hX9 hO9 hg10 hat10 b0 b1 b2 b3 hLL2;have KI : IntKind.u64.wrap ((i : Int) + 1) = (i : Int) + 1 := by rw [IntKind.wrap_u64]; have := HNB.out; omega
     rw [show P1 + k = p + (k0 + k) by have := HPP1.out; omega] at hd10;have hmi2 := Hh hmi1;clear hmi1;go_wp2_with fail
     go_roundw
     case rel => exact ⟨i + 1, H5, VA', vc', _, L', k0 + k, c1, last, KB, kn, kc, by first | rfl | (simp; done) | go_num, rfl, rfl, HLAST2.out, by have := hmi2.out; omega, rfl, hd10, hT10, hn6, hX10, hXn6, hO10, hn10, HC2.out, by rw [HM1.out]; exact HR2.out⟩
     case measure => have := hmi2.out; simp [intOf]; omega
  ·have hm : N = i := by have := HIN.out; omega
   subst hm
   have E1 : Hid (contP 5 d n (l.drop p) cnt = .ok (.mk 5 0 [] L) k0 cc) := by
    rw [Hid, HRES.out, HREL.out, Nat.sub_self, elemP]; simp [PL.pre, elR]
   obtain ⟨H5, hl5, hh5, hf5, hz5, hle1, hle2, hel5⟩ := hOr.snap hdr.psr.holds (fun q hq => hnr q (own_of hq));have hlow : ∀ q, VA.map (·.block) = some q → X + 1 ≤ q := fun q hq => (hOr.lt q (own_of hq)).1
   have hn5 : H5 w.heap.size = none := snap_keep hf5 hTn (fun e => by have := hlow _ e; have := hlt3.out; omega);have hXn5 : H5 X = none := snap_keep hf5 hXrn (fun e => by have := hlow _ e; omega);have hd6 : Rdg 97 w H wr H5 g A c l (p + k0) cc := hdr.snap (B := X + 1) hl5 hh5 hf5 hlow (by have := hlt3.out; omega) hgl;have hii : IsItem H5 none 0 VA vc (.mk 5 0 [] L) := IsRowI.item ⟨hle1, hle2, hel5⟩ 5 (by omega) 0 (by have := HNN.out; omega);clear hOr hf5 hel5 hh5 hl5 hTn hXrn hnr hlow hdr HREL;go_wp2_with (with_reducible refine stop_store ?_)
   refine wpList_store_cell rfl _ _ _ rfl rfl X 3 (.slice VA L.length vc) rfl rfl _ _ hXr size_items (by simp) rfl fun w6 hX6 hg6 => ?_
   have hd7 := hd6.gb hXn5 (Nat.le_of_lt hlt3.out) hgl hg6;have hT7 := hTr.grown hg6 (by intro e; injection e with e; have := hlt3.out; omega);have b0 := hX6.cell 0 rfl;have b1 := hX6.cell 1 rfl;have b2 := hX6.cell 2 rfl;have b3 := hX6.cell 3 rfl;clear hd6 hTr hXr hg6;go_wp2_with (with_reducible refine stop_store ?_)
   refine stI hT7 fun wz hTy hgz => ?_
   have hdz := hd7.gb hn5 (Nat.le_refl _) hgl hgz;go_wp2_with fail
   refine ret_row_tmp rfl rfl hTy rfl rfl size_item rfl ?_
   exact ItemOut.ok E1.out rfl hdz hii
end
end Go.Proofs.YtlebpackbfcfeaaGreatDoor
