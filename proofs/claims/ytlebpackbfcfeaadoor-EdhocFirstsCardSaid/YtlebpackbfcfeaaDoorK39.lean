/- squeezed. Walks: writing the first message ( -/
import Derived.Test.YtlebpackbfcfeaaDoorK38
import Derived.Test.YtlebpackbfcfeaaDoorK21
set_option linter.unusedVariables false
set_option linter.unusedSimpArgs false
set_option maxRecDepth 100000
set_option maxHeartbeats 12800000
namespace Go.Proofs.YtlebpackbfcfeaaDoor
open Go.RowKit
abbrev firstC (m : Int) (sa : Option Addr) (sn sc : Nat) (ga : Option Addr) (gn gc : Nat) (ca : Option Addr) (cn cc : Nat) (ea : Option Addr) (en ec : Nat) : Array Value := #[.int .i64 m, .slice sa sn sc, .slice ga gn gc, .slice ca cn cc, .slice ea en ec]
structure FirstA (H : Snap) (f : First) (sa : Option Addr) (sc : Nat) (ga : Option Addr) (gc : Nat) (ca : Option Addr) (cc : Nat) (ea : Option Addr) (ec : Nat) : Prop where
 suites : IsRow lieI H sa sc f.suites
 gx : IsBytes H ga gc f.gx
 conn : IsBytes H ca cc f.conn
 ext : IsRow lieE H ea ec f.ext
theorem firstOk_iff (f : First) : firstOk f = true ↔ (0 ≤ f.method ∧ f.method ≤ 3 ∧ goodSuites f.suites = true ∧ goodExt f.ext = true ∧ 1 ≤ f.gx.length ∧ f.gx.length ≤ 64 ∧ f.conn.length ≤ 7) := by
 simp [firstOk, and_assoc]
theorem encFirst_no {f : First} (h : ¬ (0 ≤ f.method ∧ f.method ≤ 3 ∧ goodSuites f.suites = true ∧ goodExt f.ext = true ∧ 1 ≤ f.gx.length ∧ f.gx.length ≤ 64 ∧ f.conn.length ≤ 7)) : encFirst f = .error 1 := by
 rw [encFirst, if_neg (fun h' => h ((firstOk_iff f).1 h'))]
theorem connB_le (c : List UInt8) : (connB c).length ≤ c.length + 9 := by
 rw [connB.eq_def]
 split
 ·split
  ·simp
  ·have := strB_le [‹UInt8›]; exact this
 ·exact strB_le _
theorem OwnX.srcR {w : World} {base : Nat} {A : Option Addr} {m c : Nat} {H : Snap} {ls : List (List UInt8)} (h : OwnX lieB 24 w base (.slice A m c) H ls) (hw : Holds w H) : SrcR w A ls := fun h0 => by
 obtain ⟨g, e, _⟩ := h.at_ 0 h0
 refine ⟨g, 0, e, fun j hj => ?_⟩
 obtain ⟨g2, e2, d, hd, hc⟩ := h.at_ j hj
 obtain ⟨Aj, cj, hd', hb⟩ := hd
 subst hd'
 have hg : g = g2 := by rw [e] at e2; injection e2 with e2; injection e2
 subst hg
 have := hc 0 _ rfl
 rw [show j * lieB.k + 0 = 0 + j from by show j * 1 + 0 = 0 + j; omega] at this
 exact ⟨Aj, cj, this, Src.of_row hb.row hw⟩
theorem info_bs : (Tryd.prog.info? 24).map (fun i => (i.zero, i.size, i.bytes)) = some (some (.slice none 0 0), 1, 24) := by kernel_rfl
theorem e_EncodeFirst {H : Snap} (w : World) (hH : Holds w H) {f : First} {m : Int} {sa : Option Addr} {sn sc : Nat} {ga : Option Addr} {gn gc : Nat} {ca : Option Addr} {cn cc : Nat} {ea : Option Addr} {en ec : Nat} (hF : FirstA H f sa sc ga gc ca cc ea ec)
  (hm : m = f.method) (hsn : sn = f.suites.length) (hgn : gn = f.gx.length) (hcn : cn = f.conn.length) (hen : en = f.ext.length) :
  Calls Tryd.prog 24 #[.agg (firstC m sa sn sc ga gn gc ca cn cc ea en ec)] w (BytesOut w (encFirst f)) := by
 have hB := Blk.new w 44 (firstC m sa sn sc ga gn gc ca cn cc ea en ec)
 have hG := (Grows.refl hH).alloc (.cells (firstC m sa sn sc ga gn gc ca cn cc ea en ec) 44)
 have b0 := hB.cell 0 rfl
 have b1 := hB.cell 1 rfl
 have b2 := hB.cell 2 rfl
 have b3 := hB.cell 3 rfl
 have b4 := hB.cell 4 rfl
 have EX0 := e_EncodeExt (w.alloc (.cells (firstC m sa sn sc ga gn gc ca cn cc ea en ec) 44)) hG.holds hF.ext
 rw [← hen] at EX0
 have EX := Hh EX0
 have HF := Hh hF
 have HQ := Hh (And.intro hm (And.intro hsn (And.intro hgn (And.intro hcn hen))))
 have hB' : Blk (w.alloc (.cells (firstC m sa sn sc ga gn gc ca cn cc ea en ec) 44)) w.heap.size 44 (firstC m sa sn sc ga gn gc ca cn cc ea en ec) := hB
 clear EX0 hm hsn hgn hcn hen hF hH hB
 go_enter Tryd.func24, Tryd.ntmps24
 go_wp2_with fail
 generalize w.alloc (.cells (firstC m sa sn sc ga gn gc ca cn cc ea en ec) 44) = w1 at hB' hG EX ⊢
 clear b0 b1 b2 b3 b4
 refine EX.out.mono ?_
 intro e w2 hs
 have hx : ∃ (r : Value) (q : Nat), e = .returned (.tuple #[r, .int .i64 (q : Int)]) ∧ Below w1.heap.size w1 w2 ∧ (goodExt f.ext = true → q = 0 ∧ Fresh w1 (extsB f.ext) r w2) ∧ (goodExt f.ext = false → q = 1) := by
  unfold BytesOut at hs
  rw [encExt] at hs
  cases hg : goodExt f.ext with
  | true =>
   rw [hg] at hs
   obtain ⟨v, rfl, hf⟩ := hs
   exact ⟨v, 0, rfl, hf.2, (fun _ => ⟨rfl, hf⟩), fun h => by cases h⟩
  | false =>
   rw [hg] at hs
   obtain ⟨rfl, hb⟩ := hs
   exact ⟨_, 1, rfl, hb, (fun h => by cases h), fun _ => rfl⟩
 obtain ⟨r, q, rfl, hb2, hgood, hbad⟩ := hx
 have HGOOD := Hh hgood
 have HBAD := Hh hbad
 have hB2 := hB'.below hb2
 have hG2 := hG.below_ hb2
 have b0 := hB2.cell 0 rfl
 have b1 := hB2.cell 1 rfl
 have b2 := hB2.cell 2 rfl
 have b3 := hB2.cell 3 rfl
 have b4 := hB2.cell 4 rfl
 have GS := Hh (e_goodSuites (n := sn) w2 hG2.holds HQ.out.2.1 HF.out.suites)
 have hbel := hG2.below
 clear EX hs hgood hbad
 by_cases c1 : m < 0
 ·have c1d : decide (m < 0) = true := decide_eq_true c1
  have E : Hid (encFirst f = .error 1) := by rw [Hid]; exact encFirst_no (by have := HQ.out.1; omega)
  clear GS
  go_wp2_with fail
  go_ret2
  exact BytesOut.err (q := 1) E.out rfl hbel
 have c1d : decide (m < 0) = false := decide_eq_false c1
 by_cases c2 : 3 < m
 ·have c2d : decide (3 < m) = true := decide_eq_true c2
  have E : Hid (encFirst f = .error 1) := by rw [Hid]; exact encFirst_no (by have := HQ.out.1; omega)
  clear GS
  go_wp2_with fail
  go_ret2
  exact BytesOut.err (q := 1) E.out rfl hbel
 have c2d : decide (3 < m) = false := decide_eq_false c2
 have HM := Hh (And.intro c1 c2)
 cases hgs : goodSuites f.suites with
 | false =>
  rw [hgs] at GS
  have E : Hid (encFirst f = .error 1) := by rw [Hid]; exact encFirst_no (by rw [hgs]; simp)
  clear hgs
  go_wp2_with fail
  refine GS.out.mono ?_
  rintro e w3 ⟨rfl, rfl⟩
  go_wp2_with fail
  go_ret2
  exact BytesOut.err (q := 1) E.out rfl hbel
 | true =>
  rw [hgs] at GS
  have HGS := Hh hgs
  clear hgs
  cases hge : goodExt f.ext with
  | false =>
   have hq := HBAD.out hge
   subst hq
   have E : Hid (encFirst f = .error 1) := by rw [Hid]; exact encFirst_no (by rw [hge]; simp)
   go_wp2_with fail
   refine GS.out.mono ?_
   rintro e w3 ⟨rfl, rfl⟩
   go_wp2_with fail
   go_ret2
   exact BytesOut.err (q := 1) E.out rfl hbel
  | true =>
   obtain ⟨hq, hfx⟩ := HGOOD.out hge
   subst hq
   have HGE := Hh hge
   clear hge
   by_cases c3 : gn = 0
   ·subst c3
    have E : Hid (encFirst f = .error 1) := by rw [Hid]; exact encFirst_no (by have := HQ.out.2.2.1; omega)
    go_wp2_with fail
    refine GS.out.mono ?_
    rintro e w3 ⟨rfl, rfl⟩
    go_wp2_with fail
    go_ret2
    exact BytesOut.err (q := 1) E.out rfl hbel
   have c3a : ¬ ((gn : Int) < 1) := by omega
   have c3d : decide ((gn : Int) < 1) = false := decide_eq_false c3a
   by_cases c4 : 64 < gn
   ·have c4a : (64 : Int) < (gn : Int) := by omega
    have c4d : decide ((64 : Int) < (gn : Int)) = true := decide_eq_true c4a
    have E : Hid (encFirst f = .error 1) := by rw [Hid]; exact encFirst_no (by have := HQ.out.2.2.1; omega)
    clear c4
    go_wp2_with fail
    refine GS.out.mono ?_
    rintro e w3 ⟨rfl, rfl⟩
    go_wp2_with fail
    go_ret2
    exact BytesOut.err (q := 1) E.out rfl hbel
   have c4a : ¬ ((64 : Int) < (gn : Int)) := by omega
   have c4d : decide ((64 : Int) < (gn : Int)) = false := decide_eq_false c4a
   by_cases c5 : 7 < cn
   ·have c5a : (7 : Int) < (cn : Int) := by omega
    have c5d : decide ((7 : Int) < (cn : Int)) = true := decide_eq_true c5a
    have E : Hid (encFirst f = .error 1) := by rw [Hid]; exact encFirst_no (by have := HQ.out.2.2.2.1; omega)
    clear c5 c4
    go_wp2_with fail
    refine GS.out.mono ?_
    rintro e w3 ⟨rfl, rfl⟩
    go_wp2_with fail
    go_ret2
    exact BytesOut.err (q := 1) E.out rfl hbel
   have c5a : ¬ ((7 : Int) < (cn : Int)) := by omega
   have c5d : decide ((7 : Int) < (cn : Int)) = false := decide_eq_false c5a
   have HZ := Hh (show gn ≠ 0 ∧ gn ≤ 64 ∧ cn ≤ 7 from ⟨c3, by omega, by omega⟩)
   have E0 : Hid (encFirst f = limited (intB m ++ suitesB f.suites ++ strB f.gx ++ connB f.conn ++ extsB f.ext)) := by
    have h1 := HQ.out
    have h2 := HM.out
    have h3 := HZ.out
    rw [Hid, encFirst, if_pos ((firstOk_iff f).2 ⟨by omega, by omega, HGS.out, HGE.out, by omega, by omega, by omega⟩), firstB, h1.1]
   obtain ⟨RA, rc, rfl, _⟩ := hfx.own.form
   obtain ⟨H2, hGx, hxb, _⟩ := Fresh.snapB hG.holds hfx
   have hG3 := hG.trans hGx
   have hXL : Hid ((extsB f.ext).length ≤ 4398400) := by
    have hg := (goodExt_iff f.ext).1 HGE.out
    have := extsB_le f.ext (fun x hx => by have := (extOk_iff x).1 (hg.2 x hx); omega)
    have := hg.1
    rw [Hid]; omega
   have HSU := Hh ((goodSuites_iff f.suites).1 HGS.out)
   have WI := Hh (fun (n : Int) (h1 : -9223372036854775808 ≤ n) (h2 : n ≤ 9223372036854775807) (w : World) => wire_Int n h1 h2 w)
   have HXB := Hh hxb
   have hm63 := Hh (show -9223372036854775808 ≤ m ∧ m ≤ 9223372036854775807 by omega)
   clear c1 c2 c3 c4 c5 c3a c4a c5a hfx hGx hxb hG hB' hb2 HGOOD HBAD hG2
   go_wp2_with fail
   refine GS.out.mono ?_
   rintro e w3 ⟨rfl, rfl⟩
   go_wp2_with fail
   refine (WI.out m hm63.out.1 hm63.out.2 _).mono ?_
   rintro e w4 ⟨r4, rfl, hf4⟩
   obtain ⟨OA, oc, rfl, _⟩ := hf4.own.form
   have hO4 := hf4.own.more (base' := w.heap.size + 1) (by have := hB2.lt; omega)
   have hG4 := hG3.below_ hf4.2
   have hB4 := hB2.below hf4.2
   have hw4 : w.heap.size < w4.heap.size := hB4.lt
   have hon4 : ∀ q, (Value.slice OA (intB m).length oc).ownBlock = some q → H2 q = none := fun q hq => hG3.holds.none_of_ge (hf4.own.lt q hq).1
   have hol4 := Hh (show ∀ q, (Value.slice OA (intB m).length oc).ownBlock = some q → w.heap.size + 1 ≤ q ∧ q < w4.heap.size from fun q hq => hO4.lt q hq)
   obtain ⟨S0, hS0⟩ : ∃ S0, intB m = S0 := ⟨_, rfl⟩
   have HS0L := Hh (show S0.length ≤ 9 by rw [← hS0]; exact (intB_le m).2)
   rw [hS0] at hO4 hon4 hol4 E0 ⊢
   clear b0 b1 b2 b3 b4 hf4 hbel hB2 hG3 GS hS0
   have b0 := hB4.cell 0 rfl
   have b1 := hB4.cell 1 rfl
   have b2 := hB4.cell 2 rfl
   have b3 := hB4.cell 3 rfl
   obtain ⟨sb, so, hsa, hat⟩ := rowI_at HF.out.suites (by have := HSU.out.1; omega)
   have HAT := Hh (And.intro hsa hat)
   clear hsa hat
   have hsn8 : (sn : Int) ≤ 8 := by have := HQ.out.2.1; have := HSU.out.2.1; omega
   have hscI : (sn : Int) ≤ (sc : Int) := by have := HF.out.suites.le; have := HQ.out.2.1; omega
   have HSN := Hh (show sn = f.suites.length ∧ 1 ≤ sn ∧ sn ≤ 8 from ⟨HQ.out.2.1, by have := HQ.out.2.1; have := HSU.out.1; omega, by omega⟩)
   go_wp2_with fail
   go_loopw [7, 58] (fun v7 v58 wr => ∃ (i : Nat) (Hr : Snap) (VA : Option Addr) (vc vn : Nat), i ≤ sn ∧ v58 = .int .i64 (i : Int) ∧ v7 = .slice VA vn vc ∧ vn = i ∧ Grows w4 H2 wr Hr ∧ OwnX lieB 24 wr w4.heap.size (.slice VA vn vc) Hr ((f.suites.take i).map intB) ∧ (∀ q, (Value.slice VA vn vc).ownBlock = some q → Hr q = none)) (fun _ v58 _ => sn - (intOf v58).toNat)
   case atStart => exact ⟨0, H2, none, 0, 0, Nat.zero_le _, rfl, rfl, rfl, Grows.refl hG4.holds, OwnX.nil _ _ _ _ _, by intro q hq; simp [Value.ownBlock] at hq⟩
   case round =>
    obtain ⟨i, Hr, VA, vc, vn, hi, rfl, rfl, rfl, hGr, hOr, hnr⟩ := hrel
    have HI := Hh hi
    clear hi
    by_cases hin : vn < sn
    ·have hii : (vn : Int) < (sn : Int) := by omega
     obtain ⟨hsa, hat⟩ := HAT.out
     subst hsa
     have q0 := (hG4.trans hGr).holds.cell (((hG4.le.trans hGr.le)).cell (hat vn (by have := HSN.out.1; omega)))
     have HVB := Hh (HSU.out.2.2.1 vn (by have := HSN.out.1; omega))
     have HTK := Hh (show (f.suites.take (vn + 1)).map intB = (f.suites.take vn).map intB ++ [intB (f.suites.getD vn 0)] by
      have h := HSN.out.1
      rw [List.take_succ_eq_append_getElem (by omega), List.map_append, List.map_singleton, getD_lt (by omega)])
     obtain ⟨v, hv⟩ : ∃ v, f.suites.getD vn 0 = v := ⟨_, rfl⟩
     rw [hv] at q0 HVB HTK
     have HIN := Hh hin
     have hi63 : (vn : Int) + 1 ≤ 9223372036854775807 := by omega
     have hLL : ((f.suites.take vn).map intB).length = vn := by rw [List.length_map, List.length_take]; have := HSN.out.1; omega
     have HLL := Hh hLL
     clear hv hin hat hLL
     go_wp2_with fail
     refine (WI.out v (by have := HVB.out; omega) (by have := HVB.out; omega) _).mono ?_
     rintro e w5 ⟨r5, rfl, hf5⟩
     obtain ⟨IA, ic, rfl, _⟩ := hf5.own.form
     obtain ⟨H5, hG5, hi5, _⟩ := Fresh.snapB hGr.holds hf5
     have hG6 := hGr.trans hG5
     have hO6 := (hOr.below hf5.2).mono hG5.le
     have hn6 : ∀ q, (Value.slice VA vn vc).ownBlock = some q → H5 q = none := fun q hq => hG5.none (hnr q hq) (hOr.lt q hq).2
     obtain ⟨ib, hib⟩ : ∃ ib, intB v = ib := ⟨_, rfl⟩
     rw [hib] at hi5 HTK ⊢
     have hG7 := hG6.alloc (.cells #[.slice IA ib.length ic] 24)
     have hO7 := hO6.alloc (.cells #[.slice IA ib.length ic] 24)
     clear hf5 hGr hOr hnr hG5 hG6 hO6 q0 hib
     obtain ⟨ls, hls⟩ : ∃ ls, (f.suites.take vn).map intB = ls := ⟨_, rfl⟩
     rw [hls] at hO7 HTK HLL
     clear hls
     go_wp2_with (at_builtin; refine stop_in ?_)
     unfold Stopped
     refine OwnX.append rfl (.tmp 62) (.tmp 65) 33 rfl Tryd.underlying33 rfl (by omega) info_bs rfl hO7 _ 1 _ [.slice IA ib.length ic] [ib] rfl rfl (RowC.one ⟨IA, ic, rfl, hi5⟩) (Src.new _ _ _ _ rfl _ rfl) (by have := HLL.out; simp only [List.length_singleton]; omega) hG7.size fun v' w8 hO8 hg8 hat8 => ?_
     obtain ⟨VA', vc', rfl, _⟩ := hO8.form
     have hn8 := own_hid3 hG7.holds hn6 hat8
     have hG8 := hG7.grownRow hn6 (fun q hq => (hO7.lt q hq).1) hg8
     have hlen : (ls ++ [ib]).length = vn + 1 := by rw [List.length_append, HLL.out]; rfl
     rw [hlen] at hO8 hn8 ⊢
     rw [← HTK.out] at hO8
     clear hO7 hG7 hg8 hat8 hlen hn6
     go_wp2_with fail
     go_roundw
     case rel => exact ⟨vn + 1, H5, VA', vc', _, HIN.out, by go_num, rfl, rfl, hG8, hO8, hn8⟩
     case measure => have := HIN.out; simp [intOf]; omega
    ·have hii : ¬ ((vn : Int) < (sn : Int)) := by omega
     have hid : decide ((vn : Int) < (sn : Int)) = false := decide_eq_false hii
     have hvs : sn = vn := by have := HI.out; omega
     have hTA : f.suites.take vn = f.suites := by rw [List.take_of_length_le]; have := HSN.out.1; omega
     rw [hTA] at hOr
     have hG5 := hG4.trans hGr
     have hO5 := hO4.below hGr.below
     have hon5 : ∀ q, (Value.slice OA S0.length oc).ownBlock = some q → Hr q = none := fun q hq => hGr.none (hon4 q hq) (hol4.out q hq).2
     have hB5 := hB4.below hGr.below
     have hSR := hOr.srcR hGr.holds
     have HFL := Hh (show ((f.suites.map intB).flatten) = intsB f.suites from intsB_flat _)
     have HML : Hid ((f.suites.map intB).length = vn) := by rw [Hid, List.length_map]; have := HSN.out.1; omega
     have HIL := Hh (intsB_le f.suites)
     have hle5 := Hh (And.intro (hG4.le.trans hGr.le) hGr.le)
     subst hvs
     clear hin hTA
     have HXB5 := Hh (HXB.out.mono hle5.out.2)
     have HGX5 := Hh (HF.out.gx.mono hle5.out.1)
     have HCN5 := Hh (HF.out.conn.mono hle5.out.1)
     clear b0 b1 b2 b3 hG4 hGr hO4 hB4 hw4 hon4 hol4
     have b2 := hB5.cell 2 rfl
     have b3 := hB5.cell 3 rfl
     have HSB : Hid (S0.length + (suitesB f.suites).length ≤ 100) := by
      have h1 := HS0L.out
      have h2 := HIL.out
      have h3 := HSN.out
      have h4 := (headB_le 4 f.suites.length).2
      rw [Hid, suitesB]
      split <;> (try simp only [List.length_append]) <;> omega
     have hnB : (Value.slice OA S0.length oc).ownBlock = some w.heap.size → False := fun e => by have := (hO5.lt _ e).1; omega
     go_upto_if 70 with fail
     go_cut [6] (fun s6 wx => ∃ (VB : Option Addr) (wc' wn : Nat), s6 = .slice VB wn wc' ∧ wn = (S0 ++ suitesB f.suites).length ∧ OwnB wx (w.heap.size + 1) (.slice VB wn wc') (S0 ++ suitesB f.suites) ∧ Grows w H wx Hr ∧ Blk wx w.heap.size 44 (firstC m sa sn sc ga gn gc ca cn cc ea en ec) ∧ (∀ q, (Value.slice VB wn wc').ownBlock = some q → Hr q = none))
     case first =>
      by_cases h1 : sn = 1
      ·subst h1
       obtain ⟨n0, hn0⟩ : ∃ n0, f.suites = [n0] := by
        have := HSN.out.1
        match hs : f.suites, this with
        | [n0], _ => exact ⟨n0, rfl⟩
       have HSB1 : Hid (suitesB f.suites = intB n0) := by rw [Hid, hn0, suitesB, if_pos (by simp), intsB, intsB, List.append_nil]
       rw [hn0] at hOr
       obtain ⟨gg, rfl, d, hd, hc⟩ := hOr.at_ 0 (by simp)
       obtain ⟨IA, ic, hd', hib⟩ := hd
       subst hd'
       have p0 : wr.cell? ⟨gg, 0, none⟩ = some (.slice IA (intB n0).length ic) := hc 0 _ rfl
       have hsrc := Hh (Src.of_row hib.row hG5.holds)
       have hil := (intB_le n0).2
       have HIL2 := Hh hil
       clear hil hn0 hc hib hOr
       go_wp2_with (at_builtin; refine stop_in ?_)
       unfold Stopped
       refine wpList_app_bytes rfl (.tmp 71) (.tmp 74) rfl (w.heap.size + 1) _ _ rfl hO5 _ _ _ (intB n0) rfl rfl hsrc.out (by have := HS0L.out; have := HIL2.out; omega) hB5.lt fun v' w6 hO6 hg6 hat6 => ?_
       obtain ⟨VB, wc', rfl, _⟩ := hO6.form
       have hG6 := hG5.grownRow hon5 (fun q hq => Nat.le_of_succ_le (hO5.lt q hq).1) hg6
       have hB6 := hB5.grown hg6 (fun e => hnB e)
       have hn6 := own_hid3 hG5.holds hon5 hat6
       obtain ⟨SS, hSS⟩ : ∃ SS, S0 ++ intB n0 = SS := ⟨_, rfl⟩
       have HSS : Hid (S0 ++ suitesB f.suites = SS) := by rw [Hid, HSB1.out]; exact hSS
       rw [hSS] at hO6 hn6 ⊢
       clear hSS
       go_wp2_with fail
       go_meet
       exact ⟨VB, wc', _, rfl, by rw [HSS.out], by rw [HSS.out]; exact hO6, hG6, hB6, hn6⟩
      ·have e1 : ((sn : Int) == 1) = false := by simp; omega
       have e1' : ((sn : Int) = 1) = False := eq_false (by omega)
       have HSB1 : Hid (suitesB f.suites = headB 4 f.suites.length ++ intsB f.suites) := by rw [Hid, suitesB, if_neg (by have := HSN.out.1; omega)]
       have AR0 := wire_Array (c := vc) HML.out.symm (by have := HML.out; have := HSN.out.2.2; omega) (by rw [HFL.out]; have := HIL.out; have := HSN.out; omega) wr hSR
       rw [HFL.out, List.length_map, ← HSB1.out] at AR0
       have AR := Hh AR0
       clear AR0 h1
       go_wp2_with fail
       refine AR.out.mono ?_
       rintro e w6 ⟨r6, rfl, hf6⟩
       obtain ⟨QA, qc, rfl, _, _, hsrc⟩ := hf6.own.form
       have hO6 := hO5.below hf6.2
       have hG6 := hG5.below_ hf6.2
       have hB6 := hB5.below hf6.2
       clear hf6 AR
       go_wp2_with (at_builtin; refine stop_in ?_)
       unfold Stopped
       refine wpList_app_bytes rfl (.tmp 76) (.tmp 78) rfl (w.heap.size + 1) _ _ rfl hO6 _ _ _ (suitesB f.suites) rfl rfl hsrc (by have := HSB.out; omega) hB6.lt fun v' w7 hO7 hg7 hat7 => ?_
       obtain ⟨VB, wc', rfl, _⟩ := hO7.form
       have hG7 := hG6.grownRow hon5 (fun q hq => Nat.le_of_succ_le (hO6.lt q hq).1) hg7
       have hB7 := hB6.grown hg7 (fun e => hnB e)
       have hn7 := own_hid3 hG6.holds hon5 hat7
       obtain ⟨SS, hSS⟩ : ∃ SS, S0 ++ suitesB f.suites = SS := ⟨_, rfl⟩
       rw [hSS] at hO7 hn7 ⊢
       have HSS := Hh hSS
       clear hSS
       go_wp2_with fail
       go_meet
       exact ⟨VB, wc', _, rfl, by rw [HSS.out], by rw [HSS.out]; exact hO7, hG7, hB7, hn7⟩
     case rest =>
      obtain ⟨VB, wc', wn, rfl, rfl, hO6, hG6, hB6, hn6⟩ := hcut
      clear hO5 hG5 hon5 hB5 hOr hnr hSR b2 b3
      obtain ⟨S1, hS1⟩ : ∃ S1, S0 ++ suitesB f.suites = S1 := ⟨_, rfl⟩
      have HS1L := Hh (show S1.length ≤ 100 by rw [← hS1, List.length_append]; exact HSB.out)
      rw [hS1] at hO6 hn6 E0 ⊢
      clear hS1
      have b2 := hB6.cell 2 rfl
      have b3 := hB6.cell 3 rfl
      have SG := Hh (fun (w : World) (hW : Holds w Hr) => wire_Str (n := gn) (c := gc) (l := f.gx) HQ.out.2.2.1 (by have := HZ.out; have := HQ.out.2.2.1; omega) w (Src.of_row HGX5.out.row hW))
      have CN := Hh (fun (w : World) (hW : Holds w Hr) => trans_Conn (n := cn) (c := cc) (l := f.conn) HQ.out.2.2.2.1 (by have := HZ.out; have := HQ.out.2.2.2.1; omega) w (Src.of_row HCN5.out.row hW))
      have hgl := strB_le f.gx
      have hcl := connB_le f.conn
      have HGL := Hh (show (strB f.gx).length ≤ 100 by have := HZ.out; have := HQ.out.2.2.1; omega)
      have HCL := Hh (show (connB f.conn).length ≤ 100 by have := HZ.out; have := HQ.out.2.2.2.1; omega)
      clear hgl hcl
      obtain ⟨sg, hsg⟩ : ∃ sg, strB f.gx = sg := ⟨_, rfl⟩
      obtain ⟨sc', hsc⟩ : ∃ sc', connB f.conn = sc' := ⟨_, rfl⟩
      obtain ⟨sx, hsx⟩ : ∃ sx, extsB f.ext = sx := ⟨_, rfl⟩
      rw [hsg] at SG HGL E0
      rw [hsc] at CN HCL E0
      rw [hsx] at hXL E0 HXB5 ⊢
      clear hsg hsc hsx
      go_wp2_with fail
      refine (SG.out _ hG6.holds).mono ?_
      rintro e w7 ⟨r7, rfl, hf7⟩
      obtain ⟨QA, qc, rfl, _, _, hsrc⟩ := hf7.own.form
      have hO7 := hO6.below hf7.2
      have hG7 := hG6.below_ hf7.2
      have hB7 := hB6.below hf7.2
      clear hf7 hO6 hG6 hB6 SG
      go_wp2_with (at_builtin; refine stop_in ?_)
      unfold Stopped
      refine wpList_app_bytes rfl (.tmp 80) (.tmp 83) rfl (w.heap.size + 1) _ _ rfl hO7 _ _ _ sg rfl rfl hsrc (by have := HS1L.out; have := HGL.out; omega) hB7.lt fun v' w8 hO8 hg8 hat8 => ?_
      obtain ⟨VC, wd', rfl, _⟩ := hO8.form
      have hG8 := hG7.grownRow hn6 (fun q hq => Nat.le_of_succ_le (hO7.lt q hq).1) hg8
      have hB8 := hB7.grown hg8 (fun e => by have := (hO7.lt _ e).1; omega)
      have hn8 := own_hid3 hG7.holds hn6 hat8
      obtain ⟨S2, hS2⟩ : ∃ S2, S1 ++ sg = S2 := ⟨_, rfl⟩
      have HS2L := Hh (show S2.length ≤ 200 by rw [← hS2, List.length_append]; have := HS1L.out; have := HGL.out; omega)
      rw [hS2] at hO8 hn8 E0 ⊢
      clear hS2 hO7 hG7 hB7 hg8 hat8 hn6 hsrc b2 b3
      have b3 := hB8.cell 3 rfl
      go_wp2_with fail
      refine (CN.out _ hG8.holds).mono ?_
      rintro e w9 ⟨r9, rfl, hf9⟩
      obtain ⟨QA2, qc2, rfl, _, _, hsrc⟩ := hf9.own.form
      have hO9 := hO8.below hf9.2
      have hG9 := hG8.below_ hf9.2
      have hB9 := hB8.below hf9.2
      clear hf9 hO8 hG8 hB8 CN b3
      go_wp2_with (at_builtin; refine stop_in ?_)
      unfold Stopped
      refine wpList_app_bytes rfl (.tmp 85) (.tmp 88) rfl (w.heap.size + 1) _ _ rfl hO9 _ _ _ sc' rfl rfl hsrc (by have := HS2L.out; have := HCL.out; omega) hB9.lt fun v' w10 hO10 hg10 hat10 => ?_
      obtain ⟨VD, we', rfl, _⟩ := hO10.form
      have hG10 := hG9.grownRow hn8 (fun q hq => Nat.le_of_succ_le (hO9.lt q hq).1) hg10
      have hB10 := hB9.grown hg10 (fun e => by have := (hO9.lt _ e).1; omega)
      have hn10 := own_hid3 hG9.holds hn8 hat10
      obtain ⟨S3, hS3⟩ : ∃ S3, S2 ++ sc' = S3 := ⟨_, rfl⟩
      have HS3L := Hh (show S3.length ≤ 300 by rw [← hS3, List.length_append]; have := HS2L.out; have := HCL.out; omega)
      rw [hS3] at hO10 hn10 E0 ⊢
      clear hS3 hO9 hG9 hg10 hat10 hn8 hsrc
      go_wp2_with (at_builtin; refine stop_in ?_)
      unfold Stopped
      refine wpList_app_bytes rfl (.tmp 90) (.tmp 91) rfl (w.heap.size + 1) _ _ rfl hO10 _ _ _ sx rfl rfl (Src.of_row HXB5.out.row hG10.holds) (by have := HS3L.out; have := hXL.out; omega) hB10.lt fun v' w11 hO11 hg11 hat11 => ?_
      obtain ⟨VE, wf', rfl, _⟩ := hO11.form
      have hG11 := hG10.grownRow hn10 (fun q hq => Nat.le_of_succ_le (hO10.lt q hq).1) hg11
      obtain ⟨S4, hS4⟩ : ∃ S4, S3 ++ sx = S4 := ⟨_, rfl⟩
      rw [hS4] at hO11 E0 ⊢
      clear hS4
      have LM := Hh (e_limited (w := w) (w1 := w11) rfl ⟨hO11.more (Nat.le_succ _), hG11.below⟩)
      rw [← E0.out] at LM
      clear hO10 hG10 hg11 hat11 hn10 hO11 hG11
      go_wp2_with fail
      refine LM.out.mono ?_
      intro e w12 hs
      clear LM
      unfold BytesOut at hs
      cases hq : encFirst f with
      | error q =>
       rw [hq] at hs
       obtain ⟨rfl, hb⟩ := hs
       go_wp2_with fail
       go_ret2
       exact BytesOut.err hq rfl hb
      | ok l =>
       rw [hq] at hs
       obtain ⟨v, rfl, hf⟩ := hs
       go_wp2_with fail
       go_ret2
       exact BytesOut.ok hq rfl hf
def PartOut (w : World) (H : Snap) (g : Nat) (l : List UInt8) (r : Except Nat (List UInt8 × Nat)) (e : Ending) (w' : World) : Prop :=
 match r with
 | .error q => ∃ (v : Option Addr) (n c : Nat) (H' : Snap) (A' : Option Addr) (c' : Nat) (l' : List UInt8), e = .returned (.slice v n c) ∧ Est w H w' H' g A' c' l' q
 | .ok (b, k) => ∃ (v : Option Addr) (c : Nat) (H' : Snap) (A' : Option Addr) (c' : Nat), e = .returned (.slice v b.length c) ∧ Est w H w' H' g A' c' (l.drop k) 0 ∧ IsBytes H' v c b
section
variable {w w' : World} {H : Snap} {g : Nat} {A : Option Addr} {c : Nat} {l : List UInt8} {q : Nat}
theorem PartOut.err {r : Except Nat (List UInt8 × Nat)} {e : Ending} {v : Option Addr} {n d : Nat} {H' : Snap} {A' : Option Addr} {c' : Nat} {l' : List UInt8} (hr : r = .error q) (he : e = .returned (.slice v n d)) (h : Est w H w' H' g A' c' l' q) : PartOut w H g l r e w' := by
 subst hr; exact ⟨v, n, d, H', A', c', l', he, h⟩
theorem PartOut.ok {r : Except Nat (List UInt8 × Nat)} {e : Ending} {v : Option Addr} {d : Nat} {b : List UInt8} {k : Nat} {H' : Snap} {A' : Option Addr} {c' : Nat} (hr : r = .ok (b, k)) (he : e = .returned (.slice v b.length d)) (h : Est w H w' H' g A' c' (l.drop k) 0) (hb : IsBytes H' v d b) : PartOut w H g l r e w' := by
 subst hr; exact ⟨v, d, H', A', c', he, h, hb⟩
theorem e_bytes_dead (hR : Rdr w g H A c l q) (hq : q ≠ 0) : Calls Tryd.prog 57 #[.pointer (some ⟨g, 0, none⟩)] w fun e w' => e = .returned (.slice none 0 0) ∧ Est w H w' H g A c l q := by
 have hgl := hR.gt
 have IT := Hh (e_item_dead hR hq)
 have z : ((q : Int) == 0) = false := by simp; omega
 have z' : ((q : Int) = 0) = False := eq_false (by omega)
 clear hq
 go_enter Tryd.func57, Tryd.ntmps57
 go_wp2_with fail
 refine IT.out.mono ?_
 rintro e w2 ⟨rfl, hd2⟩
 have hX0 := Blk.new w2 69 #[.int .i64 0, .int .u64 0, .slice none 0 0, .slice none 0 0]
 have hXn : H w2.heap.size = none := hd2.rd.holds.none_of_ge (Nat.le_refl _)
 have hXl := hd2.size
 have hd3 := hd2.alloc zeroO
 go_wp2_with (with_reducible refine stop_store ?_)
 unfold Stopped
 refine stI rfl rfl rfl rfl rfl hX0 rfl rfl rfl rfl rfl fun w4 hX4 hg4 => ?_
 have hd4 := hd3.gb hXn hXl hgl hg4
 have a1 := hd4.rd.blk.cell 1 rfl
 have b0 := hX4.cell 0 rfl
 have b2 := hX4.cell 2 rfl
 go_wp2_with fail
 go_ret
 exact ⟨rfl, hd4⟩
theorem e_bytes (hTab : Tabs H) (hR : Rdr w g H A c l 0) : Calls Tryd.prog 57 #[.pointer (some ⟨g, 0, none⟩)] w (PartOut w H g l (bytesE l)) := by
 have hgl := hR.gt
 have IT := Hh (e_item hTab hR)
 go_enter Tryd.func57, Tryd.ntmps57
 go_wp2_with fail
 refine IT.out.mono ?_
 intro e w2 hs
 unfold EItem at hs
 cases hp : prefixP l with
 | err q =>
  rw [hp] at hs
  obtain ⟨rfl, H2, A2, c2, hd2⟩ := hs
  have E : Hid (bytesE l = .error q) := by rw [Hid, bytesE, hp]
  have z : ((q : Int) == 0) = false := by have := parse_err _ _ _ _ hp; simp; omega
  have z' : ((q : Int) = 0) = False := eq_false (by have := parse_err _ _ _ _ hp; omega)
  have hX0 := Blk.new w2 69 #[.int .i64 0, .int .u64 0, .slice none 0 0, .slice none 0 0]
  have hXn : H2 w2.heap.size = none := hd2.rd.holds.none_of_ge (Nat.le_refl _)
  have hXl := hd2.size
  have hd3 := hd2.alloc zeroO
  clear hp IT
  go_wp2_with (with_reducible refine stop_store ?_)
  unfold Stopped
  refine stI rfl rfl rfl rfl rfl hX0 rfl rfl rfl rfl rfl fun w4 hX4 hg4 => ?_
  have hd4 := hd3.gb hXn hXl hgl hg4
  have a1 := hd4.rd.blk.cell 1 rfl
  have b0 := hX4.cell 0 rfl
  have b2 := hX4.cell 2 rfl
  go_wp2_with fail
  go_ret
  exact PartOut.err E.out rfl hd4
 | ok x k m =>
  rw [hp] at hs
  obtain ⟨ja, jb, jc, jd, H2, A2, c2, rfl, hd2, hi2⟩ := hs
  have hX0 := Blk.new w2 69 #[.int .i64 0, .int .u64 0, .slice none 0 0, .slice none 0 0]
  have hXn : H2 w2.heap.size = none := hd2.rd.holds.none_of_ge (Nat.le_refl _)
  have hXl := hd2.size
  have hXg := Hh hd2.rd.gt
  have hd3 := hd2.alloc zeroO
  have HP := Hh hp
  obtain ⟨bl, hbl⟩ : ∃ bl, x.bytes.length = bl := ⟨_, rfl⟩
  have HBL := Hh hbl
  clear hp IT
  go_wp2_with (with_reducible refine stop_store ?_)
  unfold Stopped
  refine stI rfl rfl rfl rfl rfl hX0 rfl rfl rfl rfl rfl fun w4 hX4 hg4 => ?_
  have hd4 := hd3.gb hXn hXl hgl hg4
  rw [hbl] at hX4
  obtain ⟨kd, hkd⟩ : ∃ kd, x.kind = kd := ⟨_, rfl⟩
  rw [hkd] at hX4
  have HKD := Hh hkd
  have a1 := hd4.rd.blk.cell 1 rfl
  have b0 := hX4.cell 0 rfl
  have b2 := hX4.cell 2 rfl
  have FL := Hh (e_fail hd4.rd.blk 4)
  rw [if_pos rfl] at FL
  clear hd3 hX0 hg4 hbl hkd
  by_cases c1 : kd = 2
  case neg =>
   have c1a : (kd != 2) = true := by rw [bne_iff_ne]; exact c1
   have c1b : (kd = 2) = False := eq_false c1
   have E : Hid (bytesE l = .error 4) := by rw [Hid, bytesE, HP.out]; simp only; rw [if_pos (by have h1 := HKD.out; have h2 := HBL.out; exact .inl (by rw [h1]; exact c1))]
   go_wp2_with fail
   refine FL.out.mono ?_
   rintro e w5 ⟨⟨v, rfl⟩, hB5, hG5⟩
   have hd5 := hd4.step hG5 hB5 hd4.rd.bytes
   have hX5 := hX4.grown hG5 (by intro e; injection e with e; have := hXg.out; omega)
   clear b0 b2 a1
   have b2 := hX5.cell 2 rfl
   go_wp2_with fail
   go_ret
   exact PartOut.err E.out rfl hd5
  subst c1
  by_cases c2 : bl = 0
  ·subst c2
   have E : Hid (bytesE l = .error 4) := by rw [Hid, bytesE, HP.out]; simp only; rw [if_pos (by have h1 := HKD.out; have h2 := HBL.out; exact .inr (.inl (by omega)))]
   go_wp2_with fail
   refine FL.out.mono ?_
   rintro e w5 ⟨⟨v, rfl⟩, hB5, hG5⟩
   have hd5 := hd4.step hG5 hB5 hd4.rd.bytes
   have hX5 := hX4.grown hG5 (by intro e; injection e with e; have := hXg.out; omega)
   clear b0 b2 a1
   have b2 := hX5.cell 2 rfl
   go_wp2_with fail
   go_ret
   exact PartOut.err E.out rfl hd5
  have c2a : ¬ ((bl : Int) < 1) := by omega
  have c2b : decide ((bl : Int) < 1) = false := decide_eq_false c2a
  by_cases c3 : 64 < bl
  ·have c3a : (64 : Int) < (bl : Int) := by omega
   have c3b : decide ((64 : Int) < (bl : Int)) = true := decide_eq_true c3a
   have E : Hid (bytesE l = .error 4) := by rw [Hid, bytesE, HP.out]; simp only; rw [if_pos (by have h1 := HKD.out; have h2 := HBL.out; exact .inr (.inr (by omega)))]
   go_wp2_with fail
   refine FL.out.mono ?_
   rintro e w5 ⟨⟨v, rfl⟩, hB5, hG5⟩
   have hd5 := hd4.step hG5 hB5 hd4.rd.bytes
   have hX5 := hX4.grown hG5 (by intro e; injection e with e; have := hXg.out; omega)
   clear b0 b2 a1
   have b2 := hX5.cell 2 rfl
   go_wp2_with fail
   go_ret
   exact PartOut.err E.out rfl hd5
  have c3a : ¬ ((64 : Int) < (bl : Int)) := by omega
  have c3b : decide ((64 : Int) < (bl : Int)) = false := decide_eq_false c3a
  have E : Hid (bytesE l = .ok (x.bytes, k)) := by rw [Hid, bytesE, HP.out]; simp only; rw [if_neg (by have h1 := HKD.out; have h2 := HBL.out; omega)]
  clear c2 c3 c2a c3a
  go_wp2_with fail
  go_ret
  exact PartOut.ok E.out (by rw [HBL.out]; rfl) hd4 hi2.bytes
theorem e_conn_dead (hR : Rdr w g H A c l q) (hq : q ≠ 0) : Calls Tryd.prog 58 #[.pointer (some ⟨g, 0, none⟩)] w fun e w' => e = .returned (.slice none 0 0) ∧ w' = w := by
 have z : ((q : Int) != 0) = true := by rw [bne_iff_ne]; omega
 have z' : ((q : Int) = 0) = False := eq_false (by omega)
 have a1 := hR.blk.cell 1 rfl
 clear hq
 go_enter Tryd.func58, Tryd.ntmps58
 go_wp2_with fail
 go_ret
 exact ⟨rfl, rfl⟩
theorem e_conn (hR : Rdr w g H A c l 0) (hl : l.length ≤ 1099511627000) : Calls Tryd.prog 58 #[.pointer (some ⟨g, 0, none⟩)] w (PartOut w H g l (parseConn l)) := by
 have a0 := hR.blk.cell 0 rfl
 have a1 := hR.blk.cell 1 rfl
 have PC := Hh (trans_ParseConn (A := A) (c := c) (l := l) rfl hl hR.bytes.le hR.bytes.max w (Src.of_row hR.bytes.row hR.holds))
 have hd0 := Est.refl hR
 have HBY := Hh hR.bytes
 clear hR hl
 go_enter Tryd.func58, Tryd.ntmps58
 go_wp2_with fail
 refine PC.out.mono ?_
 intro e w1 hs
 unfold ConnSaid at hs
 cases hp : parseConn l with
 | error q =>
  rw [hp] at hs
  obtain ⟨rfl, hb1⟩ := hs
  have hq0 : ((q : Int) != 0) = true := by rw [bne_iff_ne]; have := parseConn_err hp; omega
  have hq0' : ((q : Int) = 0) = False := eq_false (by have := parseConn_err hp; omega)
  have hd1 := hd0.below_ hb1
  have FL := Hh (e_fail hd1.rd.blk q)
  rw [if_pos rfl] at FL
  have HP := Hh hp
  clear hp PC a0 a1 hd0
  go_wp2_with fail
  refine FL.out.mono ?_
  rintro e w5 ⟨⟨v, rfl⟩, hB5, hG5⟩
  have hd5 := hd1.step hG5 hB5 hd1.rd.bytes
  go_wp2_with fail
  go_ret
  exact PartOut.err HP.out rfl hd5
 | ok r =>
  obtain ⟨cn, k⟩ := r
  rw [hp] at hs
  obtain ⟨r, rfl, hf⟩ := hs
  obtain ⟨RA, rc, rfl, _⟩ := hf.own.form
  obtain ⟨H2, hG2, hb2, _⟩ := Fresh.snapB hd0.rd.holds hf
  have hd2 := hd0.grown hG2
  have HP := Hh (show parseConn l = .ok (cn, k) from hp)
  obtain ⟨hkl, hk0, _⟩ := parseConn_le hp
  have hcl := HBY.out.le
  have hcm := HBY.out.max
  obtain ⟨b, off, rfl, _⟩ := HBY.out.at_ (by omega)
  have HDR0 := Hh ((HBY.out.mono hG2.le).drop k hkl)
  have s1 : (k : Int) ≤ (l.length : Int) := by omega
  have s2 : (l.length : Int) ≤ (c : Int) := by omega
  have s3 : (k : Int) ≤ (c : Int) := by omega
  have s4 : (0 : Int) ≤ (k : Int) := by omega
  clear hp PC a0 a1 hd0 hf hG2 hkl hk0 hcl hcm
  have a0 := hd2.rd.blk.cell 0 rfl
  by_cases hck : c = k
  ·subst hck
   have HDR : Hid (IsBytes H2 (some ⟨b, off, none⟩) 0 (l.drop c)) := by
    have h := HDR0.out
    rw [if_pos rfl, Nat.sub_self] at h
    exact h
   clear HDR0
   go_wp2_with (with_reducible refine stop_store ?_)
   unfold Stopped
   refine wpList_store_cell rfl _ _ _ rfl rfl g 0 (.slice (some ⟨b, off, none⟩) (l.length - c) 0) rfl rfl _ _ hd2.rd.blk size_bytes (by simp) rfl fun w5 hB5 hG5 => ?_
   have hB5' : Blk w5 g 74 (erC (some ⟨b, off, none⟩) (l.drop c).length 0 0) := by rw [List.length_drop]; exact hB5
   have hd5 := hd2.step hG5 hB5' HDR.out
   go_wp2_with fail
   go_ret
   exact PartOut.ok HP.out rfl hd5 hb2
  ·have hckF : (c = k) = False := eq_false hck
   have HDR : Hid (IsBytes H2 (some ⟨b, off + k, none⟩) (c - k) (l.drop k)) := by
    have h := HDR0.out
    rw [if_neg hck, Option.map_some, addr_add] at h
    exact h
   clear HDR0 hck
   go_wp2_with (with_reducible refine stop_store ?_)
   unfold Stopped
   refine wpList_store_cell rfl _ _ _ rfl rfl g 0 (.slice (some ⟨b, off + k, none⟩) (l.length - k) (c - k)) rfl rfl _ _ hd2.rd.blk size_bytes (by simp) rfl fun w5 hB5 hG5 => ?_
   have hB5' : Blk w5 g 74 (erC (some ⟨b, off + k, none⟩) (l.drop k).length (c - k) 0) := by rw [List.length_drop]; exact hB5
   have hd5 := hd2.step hG5 hB5' HDR.out
   go_wp2_with fail
   go_ret
   exact PartOut.ok HP.out rfl hd5 hb2
def RestOut (w : World) (H : Snap) (g : Nat) (r : Except Nat (List Ext)) (e : Ending) (w' : World) : Prop :=
 match r with
 | .error q => ∃ (H' : Snap) (A' : Option Addr) (c' : Nat) (l' : List UInt8), e = .returned (.slice none 0 0) ∧ Est w H w' H' g A' c' l' q
 | .ok xs => ∃ (v : Option Addr) (c : Nat) (H' : Snap) (A' : Option Addr) (c' : Nat) (l' : List UInt8), e = .returned (.slice v xs.length c) ∧ Est w H w' H' g A' c' l' 0 ∧ IsRow lieE H' v c xs
theorem RestOut.err {r : Except Nat (List Ext)} {e : Ending} {H' : Snap} {A' : Option Addr} {c' : Nat} {l' : List UInt8} (hr : r = .error q) (he : e = .returned (.slice none 0 0)) (h : Est w H w' H' g A' c' l' q) : RestOut w H g r e w' := by
 subst hr; exact ⟨H', A', c', l', he, h⟩
theorem RestOut.ok {r : Except Nat (List Ext)} {e : Ending} {xs : List Ext} {v : Option Addr} {d : Nat} {H' : Snap} {A' : Option Addr} {c' : Nat} {l' : List UInt8} (hr : r = .ok xs) (he : e = .returned (.slice v xs.length d)) (h : Est w H w' H' g A' c' l' 0) (hi : IsRow lieE H' v d xs) : RestOut w H g r e w' := by
 subst hr; exact ⟨v, d, H', A', c', l', he, h, hi⟩
theorem e_ext_dead (hR : Rdr w g H A c l q) (hq : q ≠ 0) : Calls Tryd.prog 59 #[.pointer (some ⟨g, 0, none⟩)] w fun e w' => e = .returned (.slice none 0 0) ∧ w' = w := by
 have z : ((q : Int) != 0) = true := by rw [bne_iff_ne]; omega
 have z' : ((q : Int) = 0) = False := eq_false (by omega)
 have a1 := hR.blk.cell 1 rfl
 clear hq
 go_enter Tryd.func59, Tryd.ntmps59
 go_wp2_with fail
 go_ret
 exact ⟨rfl, rfl⟩
theorem e_ext (hTab : Tabs H) (hR : Rdr w g H A c l 0) : Calls Tryd.prog 59 #[.pointer (some ⟨g, 0, none⟩)] w (RestOut w H g (decExt l)) := by
 have a0 := hR.blk.cell 0 rfl
 have a1 := hR.blk.cell 1 rfl
 have DX := Hh (e_DecodeExt hTab w hR.holds hR.bytes)
 have hd0 := Est.refl hR
 clear hR
 go_enter Tryd.func59, Tryd.ntmps59
 go_wp2_with fail
 refine DX.out.mono ?_
 intro e w1 hs
 unfold ExtsOut at hs
 cases hp : decExt l with
 | error q =>
  rw [hp] at hs
  obtain ⟨rfl, hb1⟩ := hs
  have hd1 := hd0.below_ hb1
  have FL := Hh (e_fail hd1.rd.blk q)
  rw [if_pos rfl] at FL
  have HP := Hh hp
  clear hp DX a0 a1 hd0
  go_wp2_with fail
  refine FL.out.mono ?_
  rintro e w5 ⟨⟨v, rfl⟩, hB5, hG5⟩
  have hd5 := hd1.step hG5 hB5 hd1.rd.bytes
  go_wp2_with fail
  go_ret
  exact RestOut.err HP.out rfl hd5
 | ok xs =>
  rw [hp] at hs
  obtain ⟨VA, vc, H1, rfl, hG1, hr1⟩ := hs
  have hd1 := hd0.grown hG1
  have FL0 := e_fail hd1.rd.blk 0
  rw [if_pos rfl] at FL0
  have FL := Hh (show Calls Tryd.prog 55 #[.pointer (some ⟨g, 0, none⟩), .int .i64 0] w1 _ from FL0)
  have HP := Hh hp
  clear hp DX a0 a1 hd0 FL0
  go_wp2_with fail
  refine FL.out.mono ?_
  rintro e w5 ⟨⟨v, rfl⟩, hB5, hG5⟩
  have hd5 := hd1.step hG5 hB5 hd1.rd.bytes
  go_wp2_with fail
  go_ret
  exact RestOut.ok HP.out rfl hd5 hr1
end
end Go.Proofs.YtlebpackbfcfeaaDoor
