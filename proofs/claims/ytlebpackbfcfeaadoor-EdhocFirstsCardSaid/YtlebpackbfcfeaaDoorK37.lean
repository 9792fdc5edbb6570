/- squeezed. Walks: reading external data: the  -/
import Derived.Test.YtlebpackbfcfeaaDoorK36
import Derived.Test.YtlebpackbfcfeaaDoorK13
import Derived.Test.YtlebpackbfcfeaaDoorK10
set_option linter.unusedVariables false
set_option linter.unusedSimpArgs false
set_option maxRecDepth 100000
set_option maxHeartbeats 6400000
namespace Go.Proofs.YtlebpackbfcfeaaDoor
open Go.RowKit
theorem lie3 : lieE.k = 3 := rfl
def sliceLen : Value → Nat | .slice _ n _ => n | _ => 0
theorem ref_DecodeExt {H : Snap} (hTab : Tabs H) (w : World) (hH : Holds w H) {A : Option Addr} {c : Nat} {l : List UInt8} (hl : IsBytes H A c l) :
  Calls Tryd.prog 14 #[.slice A l.length c] w (ExtsOut w H (decExt l)) := by
 have hd1 := Grows.refl hH
 go_enter Tryd.func14, Tryd.ntmps14
 go_wp2_with fail
 go_loopw [0, 4] (fun v0 v4 wr => ∃ (out : List Ext) (Hr : Snap) (A' : Option Addr) (c' n' : Nat) (l' : List UInt8) (VA : Option Addr) (vc vn : Nat), v0 = .slice A' n' c' ∧ n' = l'.length ∧ v4 = .slice VA vn vc ∧ vn = out.length ∧ Grows w H wr Hr ∧ IsBytes Hr A' c' l' ∧
  OwnX lieE 62 wr w.heap.size (.slice VA vn vc) Hr out ∧ (∀ q, (Value.slice VA vn vc).ownBlock = some q → Hr q = none) ∧ out.length ≤ 4 ∧ decE [] l = decE out l') (fun v0 _ _ => sliceLen v0)
 case atStart => exact ⟨[], H, A, c, _, l, none, 0, 0, rfl, rfl, rfl, rfl, hd1, hl, OwnX.nil _ _ _ _ _, by intro q hq; simp [Value.ownBlock] at hq, by simp, rfl⟩
 case round =>
  clear hd1
  obtain ⟨out, Hr, A', c', n', l', VA, vc, vn, rfl, rfl, rfl, rfl, hdr, hbr, hOr, hnr, hl4, hrel2⟩ := hrel
  have HREL := Hh hrel2
  have HL4 := Hh hl4
  clear hrel2 hl4
  by_cases h0 : l'.length = 0
  ·have zi : ¬ ((0 : Int) < (l'.length : Int)) := by omega
   have zi' : decide ((0 : Int) < (l'.length : Int)) = false := decide_eq_false zi
   have E : Hid (decExt l = .ok out) := by rw [Hid, decE_start, HREL.out, decE_end h0]
   clear h0
   obtain ⟨H5, hl5, hh5, hf5, hz5, hir⟩ := hOr.snap hdr.holds (fun q hq => hnr q (own_of hq))
   have hlow : ∀ q, VA.map (·.block) = some q → w.heap.size ≤ q := fun q hq => (hOr.lt q (own_of hq)).1
   have hGz := hdr.snap hl5 hh5 hf5 hlow
   clear hOr hnr hdr hf5 hbr
   go_wp2_with fail
   go_ret2
   exact ExtsOut.ok E.out rfl hGz hir
  have zi : (0 : Int) < (l'.length : Int) := by omega
  have zi' : decide ((0 : Int) < (l'.length : Int)) = true := decide_eq_true zi
  have PF := Hh (ref_Prefix (hTab.mono hdr.le) wr hdr.holds rfl hbr)
  have H0 := Hh h0
  clear h0
  go_wp2_with fail
  refine PF.out.mono ?_
  intro e w5 hs
  unfold PrefixOut at hs
  cases hp : prefixP l' with
  | err q =>
   rw [hp] at hs
   obtain ⟨rfl, hb5⟩ := hs
   have E : Hid (decExt l = .error q) := by rw [Hid, decE_start, HREL.out, decE_err H0.out hp]
   have hq0 : ((q : Int) != 0) = true := by rw [bne_iff_ne]; have := parse_err _ _ _ _ hp; omega
   have hq0' : ((q : Int) = 0) = False := eq_false (by have := parse_err _ _ _ _ hp; omega)
   have hd6 := hdr.below_ hb5
   have hX0 := Blk.new w5 69 #[.int .i64 0, .int .u64 0, .slice none 0 0, .slice none 0 0]
   have hXn : Hr w5.heap.size = none := hd6.holds.none_of_ge (Nat.le_refl _)
   have hXl : w.heap.size ≤ w5.heap.size := hd6.size
   have hd7 := hd6.alloc zeroO
   clear PF hp hdr hb5 hOr hnr HREL hd6 hbr
   go_wp2_with (with_reducible refine stop_store ?_)
   unfold Stopped
   refine stI rfl rfl rfl rfl rfl hX0 rfl rfl rfl rfl rfl fun w8 hX8 hg8 => ?_
   have hd8 := hd7.grownOwn hXn hXl hg8
   go_wp2_with fail
   go_ret2
   exact ExtsOut.err E.out rfl hd8.below
  | ok x k m =>
   rw [hp] at hs
   obtain ⟨ja, jb, jc, jd, H5, rfl, hd5, hi5⟩ := hs
   have HP := Hh hp
   have HKP := Hh (prefix_spec hp)
   have hd6 := hdr.trans hd5
   have hO6 := (hOr.below hd5.below).mono hd5.le
   have hon6 : ∀ q, (Value.slice VA out.length vc).ownBlock = some q → H5 q = none := fun q hq => hd5.none (hnr q hq) (hOr.lt q hq).2
   have hX0 := Blk.new w5 69 #[.int .i64 0, .int .u64 0, .slice none 0 0, .slice none 0 0]
   have hXn : H5 w5.heap.size = none := hd6.holds.none_of_ge (Nat.le_refl _)
   have hXl : w.heap.size ≤ w5.heap.size := hd6.size
   have hol := Hh (show ∀ q, (Value.slice VA out.length vc).ownBlock = some q → w.heap.size ≤ q ∧ q < w5.heap.size from fun q hq => hO6.lt q hq)
   have hd7 := hd6.alloc zeroO
   have hO7 := hO6.alloc zeroO
   have hbr5 := hbr.mono hd5.le
   obtain ⟨b, off, rfl, _⟩ := hbr5.at_ (by have := HKP.out.1; have := HKP.out.2.2.1; omega)
   have HDR0 := Hh (hbr5.drop k HKP.out.1)
   have HLB := Hh (show x.bytes.length ≤ 9223372036854775807 by have := hi5.bytes.le; have := hi5.bytes.max; omega)
   have HCL := Hh (And.intro hbr5.le hbr5.max)
   clear PF hp hdr hd5 hOr hnr hd6 hO6 hbr hbr5
   go_wp2_with (with_reducible refine stop_store ?_)
   unfold Stopped
   refine stI rfl rfl rfl rfl rfl hX0 rfl rfl rfl rfl rfl fun w8 hX8 hg8 => ?_
   have hd8 := hd7.grownOwn hXn hXl hg8
   have hO8 := hO7.kl hg8 (fun q hv => by have := (hol.out q hv).2; omega)
   obtain ⟨X, hXX⟩ : ∃ X, w5.heap.size = X := ⟨_, rfl⟩
   rw [hXX] at hX8 hXn hXl hol ⊢
   clear hd7 hO7 hX0 hg8 hXX
   go_upto_region 6 with fail
   go_cut [0] (fun s0 wx => ∃ SA SC, s0 = .slice SA (l'.length - k) SC ∧ IsBytes H5 SA SC (l'.drop k) ∧ w8 = wx)
   case first =>
    have s1 : (k : Int) ≤ (l'.length : Int) := by have := HKP.out.1; omega
    have s2 : (l'.length : Int) ≤ (c' : Int) := by have := HCL.out.1; omega
    have s3 : (k : Int) ≤ (c' : Int) := by omega
    have s4 : (0 : Int) ≤ (k : Int) := by omega
    by_cases hck : c' = k
    ·have h := HDR0.out
     rw [if_pos hck] at h
     have HD := Hh h
     have hckT : (c' = k) = True := eq_true hck
     clear h HDR0
     subst hck
     go_wp2_with fail
     go_meet
     exact ⟨_, _, rfl, by have h := HD.out; rw [Nat.sub_self] at h; exact h, rfl⟩
    ·have h := HDR0.out
     rw [if_neg hck, Option.map_some, addr_add] at h
     have HD := Hh h
     have hckF : (c' = k) = False := eq_false hck
     clear h HDR0 hck
     go_wp2_with fail
     go_meet
     exact ⟨_, _, rfl, HD.out, rfl⟩
   case rest =>
    obtain ⟨SA, SC, rfl, hb6, hwc⟩ := hcut
    subst hwc
    have b0 := hX8.cell 0 rfl
    have b1 := hX8.cell 1 rfl
    have b2 := hX8.cell 2 rfl
    have b3 := hX8.cell 3 rfl
    have hbel : Below w.heap.size w w8 := hd8.below
    have hdl : Hid ((l'.drop k).length = l'.length - k) := List.length_drop
    by_cases hk2 : x.kind = 2
    ·have k2 : (x.kind == 2) = true := by rw [beq_iff_eq]; exact hk2
     have k2' : (x.kind = 2) = True := eq_true hk2
     have HK2 := Hh hk2
     clear hk2
     rcases List.eq_nil_or_concat out with rfl | ⟨o, y, rfl⟩
     ·have E : Hid (decExt l = .error 4) := by rw [Hid, decE_start, HREL.out, decE_val0 H0.out HP.out HK2.out]
      go_wp2_with fail
      go_ret2
      exact ExtsOut.err (q := 4) E.out rfl hbel
     ·rw [List.concat_eq_append] at *
      obtain ⟨nO, hnO⟩ : ∃ nO, o.length = nO := ⟨_, rfl⟩
      have hlen : (o ++ [y]).length = nO + 1 := by rw [List.length_append, hnO]; rfl
      have HNO := Hh (And.intro hnO hlen)
      have hn3 : nO ≤ 3 := by have := HL4.out; omega
      rw [hlen] at hO8 hon6 hol ⊢
      obtain ⟨gq, cur, dd, rfl, hbase, hBq, hsz, hEy, hcel, hset⟩ := hO8.last
      obtain ⟨yl, yh, yv⟩ := y
      obtain ⟨YA, yc, rfl, hyb⟩ := hEy
      rw [hnO] at hcel hsz hset
      have hgq := hol.out gq rfl
      have q1 : w8.cell? ⟨gq, nO * 3 + 1, none⟩ = some (.bool yh) := hcel 1 _ rfl
      have hform := hO8.form
      have hnc : (nO : Int) + 1 ≤ (vc : Int) := by obtain ⟨_, _, e1, e2, _⟩ := hform; injection e1 with _ _ e1; subst e1; omega
      have hni : (nO : Int) ≤ 3 := by omega
      have hcast : ((nO + 1 : Nat) : Int) = (nO : Int) + 1 := by omega
      have KW : IntKind.i64.wrap (nO : Int) = (nO : Int) := IntWalk.i64_in _ (by omega)
      clear hcel hform hlen hnO
      cases yh with
      | true =>
       have E : Hid (decExt l = .error 4) := by rw [Hid, decE_start, HREL.out, decE_val1 H0.out HP.out HK2.out rfl]
       go_wp2_with fail
       go_ret2
       exact ExtsOut.err (q := 4) E.out rfl hbel
      | false =>
       by_cases hbig : 600 < x.bytes.length
       ·have E : Hid (decExt l = .error 8) := by rw [Hid, decE_start, HREL.out, decE_val2 H0.out HP.out HK2.out rfl hbig]
        have zb : (600 : Int) < (x.bytes.length : Int) := by omega
        have zb' : decide ((600 : Int) < (x.bytes.length : Int)) = true := decide_eq_true zb
        clear hbig
        go_wp2_with fail
        go_ret2
        exact ExtsOut.err (q := 8) E.out rfl hbel
       ·have HR2 : Hid (decE [] l = decE (o ++ [⟨yl, true, x.bytes⟩]) (l'.drop k)) := by rw [Hid, HREL.out, decE_val3 H0.out HP.out HK2.out rfl hbig]
        have zb : ¬ ((600 : Int) < (x.bytes.length : Int)) := by omega
        have zb' : decide ((600 : Int) < (x.bytes.length : Int)) = false := decide_eq_false zb
        clear hbig
        go_wp2_with (with_reducible refine stop_store ?_)
        unfold Stopped
        refine wpList_store_cell rfl _ _ _ rfl rfl gq (nO * 3 + 1) (.bool true) rfl rfl _ _ hBq size_bool (by rw [lie3] at hsz; omega) rfl fun w9 hB9 hg9 => ?_
        have hO9 := hset w9 1 (.bool true) ⟨yl, true, yv⟩ (by decide) hB9 (ext_has (y := ⟨yl, false, yv⟩) ⟨YA, yc, rfl, hyb⟩)
        have hd9 := hd8.grownRow (row := some gq) (by rintro q ⟨⟩; exact hon6 gq rfl) (by rintro q ⟨⟩; have := hgq.1; omega) hg9
        have hX9 := hX8.grown hg9 (by intro e; injection e with e; have := hgq.2; omega)
        clear b0 b1 b2 b3 q1
        have b2 := hX9.cell 2 rfl
        obtain ⟨gq2, cur2, dd2, hgq2, hbase2, hBq2, hsz2, hEy2, hcel2, hset2⟩ := hO9.last
        obtain rfl : gq = gq2 := by injection hgq2 with h; injection h
        go_wp2_with (with_reducible refine stop_store ?_)
        unfold Stopped
        refine wpList_store_cell rfl _ _ _ rfl rfl gq (nO * 3 + 2) (.slice ja x.bytes.length jb) rfl rfl _ _ hBq2 size_bytes (by rw [lie3, HNO.out.1] at hsz2; omega) rfl fun w10 hB10 hg10 => ?_
        have hO10 := hset2 w10 2 _ ⟨yl, true, x.bytes⟩ (by decide) (by rw [HNO.out.1]; exact hB10) (ext_val hEy2 hi5.bytes)
        have hd10 := hd9.grownRow (row := some gq) (by rintro q ⟨⟩; exact hon6 gq rfl) (by rintro q ⟨⟩; have := hgq.1; omega) hg10
        have HLT := Hh (show l'.length - k < l'.length by have := HKP.out.1; have := HKP.out.2.2.1; have := H0.out; omega)
        have hlen2 : (o ++ [(⟨yl, true, x.bytes⟩ : Ext)]).length = nO + 1 := by rw [List.length_append, HNO.out.1]; rfl
        go_wp2_with fail
        go_roundw
        case rel => exact ⟨_, H5, _, _, _, _, _, _, _, rfl, hdl.out.symm, rfl, hlen2.symm, hd10, hb6, hO10, hon6, by have := HL4.out; have := HNO.out.2; rw [hlen2]; omega, HR2.out⟩
        case measure => exact HLT.out
    ·have k2 : (x.kind == 2) = false := by rw [beq_eq_false_iff_ne]; exact hk2
     have k2' : (x.kind = 2) = False := eq_false hk2
     have NM := Hh (ref_number x.kind x.n ja x.bytes.length jb jc x.items.length jd w8 65535 (by omega))
     rw [← numE_K] at NM
     go_wp2_with fail
     refine NM.out.mono ?_
     rintro e w9 ⟨rfl, hb9⟩
     have hO9 := hO8.below hb9
     have hd9 := hd8.below_ hb9
     have hX9 := hX8.below hb9
     have hbel9 : Below w.heap.size w w9 := hd9.below
     cases hv : numE x 65535 with
     | none =>
      have E : Hid (decExt l = .error 4) := by rw [Hid, decE_start, HREL.out, decE_num0 H0.out HP.out hk2 hv]
      rw [numV]
      go_wp2_with fail
      go_ret2
      exact ExtsOut.err (q := 4) E.out rfl hbel9
     | some v =>
      rw [numV]
      by_cases hl4 : out.length = 4
      ·have E : Hid (decExt l = .error 8) := by rw [Hid, decE_start, HREL.out, decE_num1 H0.out HP.out hk2 hv hl4]
       have zb : ((out.length : Int) == 4) = true := by rw [beq_iff_eq]; omega
       have zb' : ((out.length : Int) = 4) = True := eq_true (by omega)
       clear hl4
       go_wp2_with fail
       go_ret2
       exact ExtsOut.err (q := 8) E.out rfl hbel9
      ·have zb : ((out.length : Int) == 4) = false := by rw [beq_eq_false_iff_ne]; omega
       have zb' : ((out.length : Int) = 4) = False := eq_false (by omega)
       have HR2 : Hid (decE [] l = decE (out ++ [⟨v, false, []⟩]) (l'.drop k)) := by rw [Hid, HREL.out, decE_num2 H0.out HP.out hk2 hv hl4]
       have HO3 := Hh (show out.length ≤ 3 by have := HL4.out; omega)
       clear hl4 hk2 hv
       have b0 := hX9.cell 0 rfl
       have hO9a := hO9.alloc (.cells #[.int .i64 v, .bool false, .slice none 0 0] 62)
       have hd9a := hd9.alloc (.cells #[.int .i64 v, .bool false, .slice none 0 0] 62)
       go_wp2_with (at_builtin; refine stop_in ?_)
       unfold Stopped
       refine OwnX.append rfl (.tmp 68) (.tmp 71) 23 rfl Tryd.underlying23 rfl (by omega) info_ext rfl hO9a _ 1 _ [.int .i64 v, .bool false, .slice none 0 0] [⟨v, false, []⟩] rfl rfl (RowC.one ⟨none, 0, rfl, IsBytes.nil _⟩) (Src.new _ _ _ _ rfl _ rfl) (by have := HO3.out; simp; omega) hd9a.size fun v' w10 hO10 hg10 hat10 => ?_
       obtain ⟨VA', vc', rfl, _⟩ := hO10.form
       have hn10 := own_hid3 hd9a.holds hon6 hat10
       have hd10 := hd9a.grownRow hon6 (fun q hq => (hol.out q hq).1) hg10
       have HLT := Hh (show l'.length - k < l'.length by have := HKP.out.1; have := HKP.out.2.2.1; have := H0.out; omega)
       have hlen2 : (out ++ [(⟨v, false, []⟩ : Ext)]).length = out.length + 1 := by rw [List.length_append]; rfl
       obtain ⟨out', hout'⟩ : ∃ o', out ++ [(⟨v, false, []⟩ : Ext)] = o' := ⟨_, rfl⟩
       rw [hout'] at hO10 hn10 HR2 hlen2 ⊢
       have HLEN := Hh hlen2
       clear hlen2 hout'
       go_wp2_with fail
       go_roundw
       case rel => exact ⟨out', H5, _, _, _, _, VA', vc', _, rfl, hdl.out.symm, rfl, rfl, hd10, hb6, hO10, hn10, by have := HO3.out; rw [HLEN.out]; omega, HR2.out⟩
       case measure => exact HLT.out
theorem size_ext : (Tryd.prog.info? 62).map (·.size) = some 3 := by kernel_rfl
theorem e_goodExt {H : Snap} (w : World) (hH : Holds w H) {A : Option Addr} {c : Nat} {l : List Ext} (hr : IsRow lieE H A c l) :
  Calls Tryd.prog 43 #[.slice A l.length c] w fun e w' => e = .returned (.bool (goodExt l)) ∧ Below w.heap.size w w' := by
 by_cases h4 : 4 < l.length
 ·have z : (4 : Int) < (l.length : Int) := by omega
  have E : Hid (goodExt l = false) := by
   rw [Hid]
   cases hg : goodExt l with
   | false => rfl
   | true => have := ((goodExt_iff l).1 hg).1; omega
  clear h4
  go_enter Tryd.func43, Tryd.ntmps43
  go_wp2_with fail
  go_ret
  exact ⟨by rw [E.out]; try rfl, Below.refl _ _⟩
 have z : ¬ ((4 : Int) < (l.length : Int)) := by omega
 have zd : decide ((4 : Int) < (l.length : Int)) = false := decide_eq_false z
 have H4 := Hh (Nat.not_lt.1 h4)
 have HR := Hh hr
 have HH := Hh hH
 have hli : (l.length : Int) ≤ 4 := by omega
 clear h4 hr hH
 go_enter Tryd.func43, Tryd.ntmps43
 go_wp2_with fail
 go_loopw [10] (fun v10 wr => ∃ k : Nat, k ≤ l.length ∧ v10 = .int .i64 (k : Int) ∧ Below w.heap.size w wr ∧ ∀ j (hj : j < k), extOk (l.getD j ⟨0, true, []⟩) = true) (fun v10 _ => l.length - (intOf v10).toNat)
 case atStart => exact ⟨0, Nat.zero_le _, rfl, Below.refl _ _, fun j hj => absurd hj (by omega)⟩
 case round =>
  obtain ⟨k, hk, rfl, hbr, hall⟩ := hrel
  have HALL := Hh hall
  have HKK := Hh hk
  clear hall hk
  by_cases hkl : k < l.length
  ·have hki : (k : Int) < (l.length : Int) := by omega
   obtain ⟨b, off, rfl, hat⟩ := HR.out.at_ (by omega)
   obtain ⟨d, hd, hc⟩ := hat k hkl
   obtain ⟨YA, yc, rfl, hyb⟩ := hd
   have hHr := HH.out.below hbr (Nat.le_refl _)
   have hEL : l[k] = l.getD k ⟨0, true, []⟩ := by rw [List.getD_eq_getElem?_getD, List.getElem?_eq_getElem hkl]; rfl
   obtain ⟨x, hx⟩ : ∃ x, l[k] = x := ⟨_, rfl⟩
   have HEL : Hid (l.getD k ⟨0, true, []⟩ = x) := by rw [Hid, ← hEL]; exact hx
   have HE2 : Hid (∀ h : k < l.length, l[k] = x) := fun _ => hx
   rw [hx] at hc hyb
   obtain ⟨yl, yh, yv⟩ := x
   have q0 : wr.cell? ⟨b, off + k * 3, none⟩ = some (.int .i64 yl) := hHr.cell (hc 0 _ rfl)
   have q1 : wr.cell? ⟨b, off + k * 3 + 1, none⟩ = some (.bool yh) := hHr.cell (hc 1 _ rfl)
   have q2 : wr.cell? ⟨b, off + k * 3 + 2, none⟩ = some (.slice YA yv.length yc) := hHr.cell (hc 2 _ rfl)
   obtain ⟨vl, hvl⟩ : ∃ vl, yv.length = vl := ⟨_, rfl⟩
   rw [hvl] at q2
   have hT0 := Blk.new wr 62 #[.int .i64 0, .bool false, .slice none 0 0]
   have HK := Hh hkl
   have hnc : (l.length : Int) ≤ (c : Int) := by have := HR.out.le; omega
   have hk63 : (k : Int) + 1 ≤ 9223372036854775807 := by have := H4.out; omega
   have HVL := Hh hvl
   clear hkl hat hc hHr hEL hx hyb hvl
   have KF : ∀ (b' : Bool), extOk ⟨yl, yh, yv⟩ = b' → b' = false → goodExt l = false := fun b' h1 h2 => goodExt_bad HK.out (by rw [HE2.out HK.out, h1, h2])
   have KFH := Hh KF
   clear KF
   by_cases c1 : yl < -65535
   ·have c1' : decide (yl < -65535) = true := decide_eq_true c1
    have BAD : Hid (goodExt l = false) := KFH.out _ rfl (by
     cases hh : extOk ⟨yl, yh, yv⟩ with
     | false => rfl
     | true => have := (extOk_iff _).1 hh; simp only at this; have := HVL.out; omega)
    go_wp2_with (with_reducible refine stop_store ?_)
    unfold Stopped
    refine wpList_store_item rfl _ _ _ rfl rfl _ _ rfl rfl _ _ hT0 size_ext rfl (one3 _ _ _ rfl rfl rfl) fun w3 hT3 hg3 => ?_
    have hb3 := below_of_grown (hbr.alloc hbr.size (.cells #[.int .i64 0, .bool false, .slice none 0 0] 62)) hg3 (by rintro q ⟨⟩; exact hbr.size)
    have b0 := hT3.cell 0 rfl
    have b1 := hT3.cell 1 rfl
    have b2 := hT3.cell 2 rfl
    clear hT0 hg3 q0 q1 q2
    go_wp2_with fail
    go_ret
    exact ⟨by rw [BAD.out]; try rfl, hb3⟩
   have c1' : decide (yl < -65535) = false := decide_eq_false c1
   by_cases c2 : 65535 < yl
   ·have c2' : decide (65535 < yl) = true := decide_eq_true c2
    have BAD : Hid (goodExt l = false) := KFH.out _ rfl (by
     cases hh : extOk ⟨yl, yh, yv⟩ with
     | false => rfl
     | true => have := (extOk_iff _).1 hh; simp only at this; have := HVL.out; omega)
    go_wp2_with (with_reducible refine stop_store ?_)
    unfold Stopped
    refine wpList_store_item rfl _ _ _ rfl rfl _ _ rfl rfl _ _ hT0 size_ext rfl (one3 _ _ _ rfl rfl rfl) fun w3 hT3 hg3 => ?_
    have hb3 := below_of_grown (hbr.alloc hbr.size (.cells #[.int .i64 0, .bool false, .slice none 0 0] 62)) hg3 (by rintro q ⟨⟩; exact hbr.size)
    have b0 := hT3.cell 0 rfl
    have b1 := hT3.cell 1 rfl
    have b2 := hT3.cell 2 rfl
    clear hT0 hg3 q0 q1 q2
    go_wp2_with fail
    go_ret
    exact ⟨by rw [BAD.out]; try rfl, hb3⟩
   have c2' : decide (65535 < yl) = false := decide_eq_false c2
   by_cases c3 : 600 < vl
   ·have c3' : (600 : Int) < (vl : Int) := by omega
    have c3d : decide ((600 : Int) < (vl : Int)) = true := decide_eq_true c3'
    have BAD : Hid (goodExt l = false) := KFH.out _ rfl (by
     cases hh : extOk ⟨yl, yh, yv⟩ with
     | false => rfl
     | true => have := (extOk_iff _).1 hh; simp only at this; have := HVL.out; omega)
    clear c3
    go_wp2_with (with_reducible refine stop_store ?_)
    unfold Stopped
    refine wpList_store_item rfl _ _ _ rfl rfl _ _ rfl rfl _ _ hT0 size_ext rfl (one3 _ _ _ rfl rfl rfl) fun w3 hT3 hg3 => ?_
    have hb3 := below_of_grown (hbr.alloc hbr.size (.cells #[.int .i64 0, .bool false, .slice none 0 0] 62)) hg3 (by rintro q ⟨⟩; exact hbr.size)
    have b0 := hT3.cell 0 rfl
    have b1 := hT3.cell 1 rfl
    have b2 := hT3.cell 2 rfl
    clear hT0 hg3 q0 q1 q2
    go_wp2_with fail
    go_ret
    exact ⟨by rw [BAD.out]; try rfl, hb3⟩
   have c3' : ¬ ((600 : Int) < (vl : Int)) := by omega
   have c3d : decide ((600 : Int) < (vl : Int)) = false := decide_eq_false c3'
   cases yh with
   | true =>
    have OK : Hid (extOk ⟨yl, true, yv⟩ = true) := by rw [Hid, extOk_iff]; simp only; exact ⟨by omega, by omega, by have := HVL.out; omega, by simp⟩
    clear c3
    go_wp2_with (with_reducible refine stop_store ?_)
    unfold Stopped
    refine wpList_store_item rfl _ _ _ rfl rfl _ _ rfl rfl _ _ hT0 size_ext rfl (one3 _ _ _ rfl rfl rfl) fun w3 hT3 hg3 => ?_
    have hb3 := below_of_grown (hbr.alloc hbr.size (.cells #[.int .i64 0, .bool false, .slice none 0 0] 62)) hg3 (by rintro q ⟨⟩; exact hbr.size)
    have b0 := hT3.cell 0 rfl
    have b1 := hT3.cell 1 rfl
    have b2 := hT3.cell 2 rfl
    clear hT0 hg3 q0 q1 q2
    go_wp2_with fail
    go_roundw
    case rel => exact ⟨k + 1, HK.out, by go_num, hb3, fun j hj => by
     rcases Nat.lt_succ_iff_lt_or_eq.1 hj with h | h
     ·exact HALL.out j h
     ·subst h; rw [HEL.out]; exact OK.out⟩
    case measure => have := HK.out; simp [intOf]; omega
   | false =>
    by_cases c4 : 0 < vl
    ·have c4' : (0 : Int) < (vl : Int) := by omega
     have c4d : decide (0 < vl) = true := decide_eq_true c4
     clear c4'
     have BAD : Hid (goodExt l = false) := KFH.out _ rfl (by
      cases hh : extOk ⟨yl, false, yv⟩ with
      | false => rfl
      | true => have := (extOk_iff _).1 hh; simp only [Bool.false_eq_true, false_or] at this; have := HVL.out; omega)
     clear c3 c4
     go_wp2_with (with_reducible refine stop_store ?_)
     unfold Stopped
     refine wpList_store_item rfl _ _ _ rfl rfl _ _ rfl rfl _ _ hT0 size_ext rfl (one3 _ _ _ rfl rfl rfl) fun w3 hT3 hg3 => ?_
     have hb3 := below_of_grown (hbr.alloc hbr.size (.cells #[.int .i64 0, .bool false, .slice none 0 0] 62)) hg3 (by rintro q ⟨⟩; exact hbr.size)
     have b0 := hT3.cell 0 rfl
     have b1 := hT3.cell 1 rfl
     have b2 := hT3.cell 2 rfl
     clear hT0 hg3 q0 q1 q2
     go_wp2_with fail
     go_ret
     exact ⟨by rw [BAD.out]; try rfl, hb3⟩
    ·have c4' : ¬ ((0 : Int) < (vl : Int)) := by omega
     have c4d : decide (0 < vl) = false := decide_eq_false c4
     clear c4'
     have OK : Hid (extOk ⟨yl, false, yv⟩ = true) := by rw [Hid, extOk_iff]; simp only; exact ⟨by omega, by omega, by have := HVL.out; omega, .inr (by have := HVL.out; omega)⟩
     clear c3 c4
     go_wp2_with (with_reducible refine stop_store ?_)
     unfold Stopped
     refine wpList_store_item rfl _ _ _ rfl rfl _ _ rfl rfl _ _ hT0 size_ext rfl (one3 _ _ _ rfl rfl rfl) fun w3 hT3 hg3 => ?_
     have hb3 := below_of_grown (hbr.alloc hbr.size (.cells #[.int .i64 0, .bool false, .slice none 0 0] 62)) hg3 (by rintro q ⟨⟩; exact hbr.size)
     have b0 := hT3.cell 0 rfl
     have b1 := hT3.cell 1 rfl
     have b2 := hT3.cell 2 rfl
     clear hT0 hg3 q0 q1 q2
     go_wp2_with fail
     go_roundw
     case rel => exact ⟨k + 1, HK.out, by go_num, hb3, fun j hj => by
      rcases Nat.lt_succ_iff_lt_or_eq.1 hj with h | h
      ·exact HALL.out j h
      ·subst h; rw [HEL.out]; exact OK.out⟩
     case measure => have := HK.out; simp [intOf]; omega
  ·have hke : ¬ ((k : Int) < (l.length : Int)) := by omega
   have hke' : decide ((k : Int) < (l.length : Int)) = false := decide_eq_false hke
   have E : Hid (goodExt l = true) := goodExt_all H4.out fun j hj => by
    have := HALL.out j (by omega)
    rwa [List.getD_eq_getElem?_getD, List.getElem?_eq_getElem hj] at this
   clear hkl
   go_wp2_with fail
   go_ret
   exact ⟨by rw [E.out]; try rfl, hbr⟩
theorem ref_ValidExt {H : Snap} (w : World) (hH : Holds w H) {A : Option Addr} {c : Nat} {l : List Ext} (hr : IsRow lieE H A c l) :
  Calls Tryd.prog 46 #[.slice A l.length c] w fun e w' => e = .returned (.bool (goodExt l)) ∧ Below w.heap.size w w' := by
 by_cases h4 : 4 < l.length
 ·have z : (4 : Int) < (l.length : Int) := by omega
  have E : Hid (goodExt l = false) := by
   rw [Hid]
   cases hg : goodExt l with
   | false => rfl
   | true => have := ((goodExt_iff l).1 hg).1; omega
  clear h4
  go_enter Tryd.func46, Tryd.ntmps46
  go_wp2_with fail
  go_ret
  exact ⟨by rw [E.out]; try rfl, Below.refl _ _⟩
 have z : ¬ ((4 : Int) < (l.length : Int)) := by omega
 have zd : decide ((4 : Int) < (l.length : Int)) = false := decide_eq_false z
 have H4 := Hh (Nat.not_lt.1 h4)
 have HR := Hh hr
 have HH := Hh hH
 have hli : (l.length : Int) ≤ 4 := by omega
 clear h4 hr hH
 go_enter Tryd.func46, Tryd.ntmps46
 go_wp2_with fail
 go_loopw [10] (fun v10 wr => ∃ k : Nat, k ≤ l.length ∧ v10 = .int .i64 (k : Int) ∧ Below w.heap.size w wr ∧ ∀ j (hj : j < k), extOk (l.getD j ⟨0, true, []⟩) = true) (fun v10 _ => l.length - (intOf v10).toNat)
 case atStart => exact ⟨0, Nat.zero_le _, rfl, Below.refl _ _, fun j hj => absurd hj (by omega)⟩
 case round =>
  obtain ⟨k, hk, rfl, hbr, hall⟩ := hrel
  have HALL := Hh hall
  have HKK := Hh hk
  clear hall hk
  by_cases hkl : k < l.length
  ·have hki : (k : Int) < (l.length : Int) := by omega
   obtain ⟨b, off, rfl, hat⟩ := HR.out.at_ (by omega)
   obtain ⟨d, hd, hc⟩ := hat k hkl
   obtain ⟨YA, yc, rfl, hyb⟩ := hd
   have hHr := HH.out.below hbr (Nat.le_refl _)
   have hEL : l[k] = l.getD k ⟨0, true, []⟩ := by rw [List.getD_eq_getElem?_getD, List.getElem?_eq_getElem hkl]; rfl
   obtain ⟨x, hx⟩ : ∃ x, l[k] = x := ⟨_, rfl⟩
   have HEL : Hid (l.getD k ⟨0, true, []⟩ = x) := by rw [Hid, ← hEL]; exact hx
   have HE2 : Hid (∀ h : k < l.length, l[k] = x) := fun _ => hx
   rw [hx] at hc hyb
   obtain ⟨yl, yh, yv⟩ := x
   have q0 : wr.cell? ⟨b, off + k * 3, none⟩ = some (.int .i64 yl) := hHr.cell (hc 0 _ rfl)
   have q1 : wr.cell? ⟨b, off + k * 3 + 1, none⟩ = some (.bool yh) := hHr.cell (hc 1 _ rfl)
   have q2 : wr.cell? ⟨b, off + k * 3 + 2, none⟩ = some (.slice YA yv.length yc) := hHr.cell (hc 2 _ rfl)
   obtain ⟨vl, hvl⟩ : ∃ vl, yv.length = vl := ⟨_, rfl⟩
   rw [hvl] at q2
   have hT0 := Blk.new wr 62 #[.int .i64 0, .bool false, .slice none 0 0]
   have HK := Hh hkl
   have hnc : (l.length : Int) ≤ (c : Int) := by have := HR.out.le; omega
   have hk63 : (k : Int) + 1 ≤ 9223372036854775807 := by have := H4.out; omega
   have HVL := Hh hvl
   clear hkl hat hc hHr hEL hx hyb hvl
   have KF : ∀ (b' : Bool), extOk ⟨yl, yh, yv⟩ = b' → b' = false → goodExt l = false := fun b' h1 h2 => goodExt_bad HK.out (by rw [HE2.out HK.out, h1, h2])
   have KFH := Hh KF
   clear KF
   by_cases c1 : yl < -65535
   ·have c1' : decide (yl < -65535) = true := decide_eq_true c1
    have BAD : Hid (goodExt l = false) := KFH.out _ rfl (by
     cases hh : extOk ⟨yl, yh, yv⟩ with
     | false => rfl
     | true => have := (extOk_iff _).1 hh; simp only at this; have := HVL.out; omega)
    go_wp2_with (with_reducible refine stop_store ?_)
    unfold Stopped
    refine wpList_store_item rfl _ _ _ rfl rfl _ _ rfl rfl _ _ hT0 size_ext rfl (one3 _ _ _ rfl rfl rfl) fun w3 hT3 hg3 => ?_
    have hb3 := below_of_grown (hbr.alloc hbr.size (.cells #[.int .i64 0, .bool false, .slice none 0 0] 62)) hg3 (by rintro q ⟨⟩; exact hbr.size)
    have b0 := hT3.cell 0 rfl
    have b1 := hT3.cell 1 rfl
    have b2 := hT3.cell 2 rfl
    clear hT0 hg3 q0 q1 q2
    go_wp2_with fail
    go_ret
    exact ⟨by rw [BAD.out]; try rfl, hb3⟩
   have c1' : decide (yl < -65535) = false := decide_eq_false c1
   by_cases c2 : 65535 < yl
   ·have c2' : decide (65535 < yl) = true := decide_eq_true c2
    have BAD : Hid (goodExt l = false) := KFH.out _ rfl (by
     cases hh : extOk ⟨yl, yh, yv⟩ with
     | false => rfl
     | true => have := (extOk_iff _).1 hh; simp only at this; have := HVL.out; omega)
    go_wp2_with (with_reducible refine stop_store ?_)
    unfold Stopped
    refine wpList_store_item rfl _ _ _ rfl rfl _ _ rfl rfl _ _ hT0 size_ext rfl (one3 _ _ _ rfl rfl rfl) fun w3 hT3 hg3 => ?_
    have hb3 := below_of_grown (hbr.alloc hbr.size (.cells #[.int .i64 0, .bool false, .slice none 0 0] 62)) hg3 (by rintro q ⟨⟩; exact hbr.size)
    have b0 := hT3.cell 0 rfl
    have b1 := hT3.cell 1 rfl
    have b2 := hT3.cell 2 rfl
    clear hT0 hg3 q0 q1 q2
    go_wp2_with fail
    go_ret
    exact ⟨by rw [BAD.out]; try rfl, hb3⟩
   have c2' : decide (65535 < yl) = false := decide_eq_false c2
   by_cases c3 : 600 < vl
   ·have c3' : (600 : Int) < (vl : Int) := by omega
    have c3d : decide ((600 : Int) < (vl : Int)) = true := decide_eq_true c3'
    have BAD : Hid (goodExt l = false) := KFH.out _ rfl (by
     cases hh : extOk ⟨yl, yh, yv⟩ with
     | false => rfl
     | true => have := (extOk_iff _).1 hh; simp only at this; have := HVL.out; omega)
    clear c3
    go_wp2_with (with_reducible refine stop_store ?_)
    unfold Stopped
    refine wpList_store_item rfl _ _ _ rfl rfl _ _ rfl rfl _ _ hT0 size_ext rfl (one3 _ _ _ rfl rfl rfl) fun w3 hT3 hg3 => ?_
    have hb3 := below_of_grown (hbr.alloc hbr.size (.cells #[.int .i64 0, .bool false, .slice none 0 0] 62)) hg3 (by rintro q ⟨⟩; exact hbr.size)
    have b0 := hT3.cell 0 rfl
    have b1 := hT3.cell 1 rfl
    have b2 := hT3.cell 2 rfl
    clear hT0 hg3 q0 q1 q2
    go_wp2_with fail
    go_ret
    exact ⟨by rw [BAD.out]; try rfl, hb3⟩
   have c3' : ¬ ((600 : Int) < (vl : Int)) := by omega
   have c3d : decide ((600 : Int) < (vl : Int)) = false := decide_eq_false c3'
   cases yh with
   | true =>
    have OK : Hid (extOk ⟨yl, true, yv⟩ = true) := by rw [Hid, extOk_iff]; simp only; exact ⟨by omega, by omega, by have := HVL.out; omega, by simp⟩
    clear c3
    go_wp2_with (with_reducible refine stop_store ?_)
    unfold Stopped
    refine wpList_store_item rfl _ _ _ rfl rfl _ _ rfl rfl _ _ hT0 size_ext rfl (one3 _ _ _ rfl rfl rfl) fun w3 hT3 hg3 => ?_
    have hb3 := below_of_grown (hbr.alloc hbr.size (.cells #[.int .i64 0, .bool false, .slice none 0 0] 62)) hg3 (by rintro q ⟨⟩; exact hbr.size)
    have b0 := hT3.cell 0 rfl
    have b1 := hT3.cell 1 rfl
    have b2 := hT3.cell 2 rfl
    clear hT0 hg3 q0 q1 q2
    go_wp2_with fail
    go_roundw
    case rel => exact ⟨k + 1, HK.out, by go_num, hb3, fun j hj => by
     rcases Nat.lt_succ_iff_lt_or_eq.1 hj with h | h
     ·exact HALL.out j h
     ·subst h; rw [HEL.out]; exact OK.out⟩
    case measure => have := HK.out; simp [intOf]; omega
   | false =>
    by_cases c4 : 0 < vl
    ·have c4' : (0 : Int) < (vl : Int) := by omega
     have c4d : decide (0 < vl) = true := decide_eq_true c4
     clear c4'
     have BAD : Hid (goodExt l = false) := KFH.out _ rfl (by
      cases hh : extOk ⟨yl, false, yv⟩ with
      | false => rfl
      | true => have := (extOk_iff _).1 hh; simp only [Bool.false_eq_true, false_or] at this; have := HVL.out; omega)
     clear c3 c4
     go_wp2_with (with_reducible refine stop_store ?_)
     unfold Stopped
     refine wpList_store_item rfl _ _ _ rfl rfl _ _ rfl rfl _ _ hT0 size_ext rfl (one3 _ _ _ rfl rfl rfl) fun w3 hT3 hg3 => ?_
     have hb3 := below_of_grown (hbr.alloc hbr.size (.cells #[.int .i64 0, .bool false, .slice none 0 0] 62)) hg3 (by rintro q ⟨⟩; exact hbr.size)
     have b0 := hT3.cell 0 rfl
     have b1 := hT3.cell 1 rfl
     have b2 := hT3.cell 2 rfl
     clear hT0 hg3 q0 q1 q2
     go_wp2_with fail
     go_ret
     exact ⟨by rw [BAD.out]; try rfl, hb3⟩
    ·have c4' : ¬ ((0 : Int) < (vl : Int)) := by omega
     have c4d : decide (0 < vl) = false := decide_eq_false c4
     clear c4'
     have OK : Hid (extOk ⟨yl, false, yv⟩ = true) := by rw [Hid, extOk_iff]; simp only; exact ⟨by omega, by omega, by have := HVL.out; omega, .inr (by have := HVL.out; omega)⟩
     clear c3 c4
     go_wp2_with (with_reducible refine stop_store ?_)
     unfold Stopped
     refine wpList_store_item rfl _ _ _ rfl rfl _ _ rfl rfl _ _ hT0 size_ext rfl (one3 _ _ _ rfl rfl rfl) fun w3 hT3 hg3 => ?_
     have hb3 := below_of_grown (hbr.alloc hbr.size (.cells #[.int .i64 0, .bool false, .slice none 0 0] 62)) hg3 (by rintro q ⟨⟩; exact hbr.size)
     have b0 := hT3.cell 0 rfl
     have b1 := hT3.cell 1 rfl
     have b2 := hT3.cell 2 rfl
     clear hT0 hg3 q0 q1 q2
     go_wp2_with fail
     go_roundw
     case rel => exact ⟨k + 1, HK.out, by go_num, hb3, fun j hj => by
      rcases Nat.lt_succ_iff_lt_or_eq.1 hj with h | h
      ·exact HALL.out j h
      ·subst h; rw [HEL.out]; exact OK.out⟩
     case measure => have := HK.out; simp [intOf]; omega
  ·have hke : ¬ ((k : Int) < (l.length : Int)) := by omega
   have hke' : decide ((k : Int) < (l.length : Int)) = false := decide_eq_false hke
   have E : Hid (goodExt l = true) := goodExt_all H4.out fun j hj => by
    have := HALL.out j (by omega)
    rwa [List.getD_eq_getElem?_getD, List.getElem?_eq_getElem hj] at this
   clear hkl
   go_wp2_with fail
   go_ret
   exact ⟨by rw [E.out]; try rfl, hbr⟩
def BytesOut (w : World) (r : Except Nat (List UInt8)) (e : Ending) (w' : World) : Prop :=
 match r with
 | .error q => e = .returned (.tuple #[.slice none 0 0, .int .i64 (q : Int)]) ∧ Below w.heap.size w w'
 | .ok l => ∃ v, e = .returned (.tuple #[v, .int .i64 0]) ∧ Fresh w l v w'
theorem BytesOut.err {w w' : World} {r : Except Nat (List UInt8)} {e : Ending} {q : Nat} (hr : r = .error q) (he : e = .returned (.tuple #[.slice none 0 0, .int .i64 (q : Int)])) (hb : Below w.heap.size w w') : BytesOut w r e w' := by
 subst hr; exact ⟨he, hb⟩
theorem BytesOut.ok {w w' : World} {r : Except Nat (List UInt8)} {e : Ending} {l : List UInt8} {v : Value} (hr : r = .ok l) (he : e = .returned (.tuple #[v, .int .i64 0])) (hf : Fresh w l v w') : BytesOut w r e w' := by
 subst hr; exact ⟨v, he, hf⟩
end Go.Proofs.YtlebpackbfcfeaaDoor
