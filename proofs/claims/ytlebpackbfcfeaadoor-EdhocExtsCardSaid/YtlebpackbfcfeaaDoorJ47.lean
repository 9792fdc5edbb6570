/- squeezed. Walks: the law of external data. -/
import Derived.Test.YtlebpackbfcfeaaDoorJ44
import Derived.Test.YtlebpackbfcfeaaDoorJ45
import Derived.Test.YtlebpackbfcfeaaDoorJ46
import Derived.Test.YtlebpackbfcfeaaDoorJ43
set_option linter.unusedVariables false
set_option linter.unusedSimpArgs false
namespace Go.Proofs.YtlebpackbfcfeaaDoor
open Go.RowKit

def lieR : Lie (List Ext) where
 k := 1
 pos := by omega
 E := fun H x c => ∃ A cc, c = [.slice A x.length cc] ∧ IsRow lieE H A cc x
 len := by rintro _ _ _ ⟨_, _, rfl, _⟩; rfl
 one := by rintro _ _ _ ⟨_, _, rfl, _⟩; simp [Value.oneCell']
 mono := by rintro H K x c hl ⟨A, cc, e, h⟩; exact ⟨A, cc, e, h.mono hl⟩
set_option maxRecDepth 100000 in
set_option maxHeartbeats 25600000 in
theorem law24_exts {H : Snap} (hTab : Tabs H) {A : Option Addr} {c : Nat} {l : List Int} (hl : IsInts H A c l) {EA : Option Addr} {ec : Nat} {raw : List Ext} (hr : IsRow lieE H EA ec raw) {BA : Option Addr} {bc : Nat} {b : List UInt8} (hb : IsBytes H BA bc b) (at_ by_ : Int) (w : World) (hH : Holds w H) :
   Calls Tryd.prog 3 #[.slice A l.length c, .slice EA raw.length ec, .slice BA b.length bc, .int .i64 at_, .int .i64 by_] w fun e w' => e = .returned (.bool true) ∧ Below w.heap.size w w' := by
 have HT := Lib.hid hTab
 have HL := Lib.hid hl
 have HR := Lib.hid hr
 have HB := Lib.hid hb
 have HH := Lib.hid hH
 have LT := Lib.hid (law_light w hH rfl hr)
 have AW := Lib.hid (fun (W : World) (h : Below w.heap.size w W) => law_awake hTab W (hH.below h (Nat.le_refl _)))
 have SM := Lib.hid (fun (n c : Nat) (A : Option Addr) (w : World) => mk2_Small A n c w)
 clear hTab hl hr hb hH
 go_enter Tryd.func3, Tryd.ntmps3
 go_wp2_with fail
 refine LT.out.mono ?_
 rintro e w1 ⟨⟨t1, rfl⟩, hb1⟩
 clear LT
 cases t1 with
 | false =>
   go_wp2_with fail
   refine (AW.out _ hb1).mono ?_
   rintro e w2 ⟨rfl, hb2⟩
   go_wp2_with fail
   go_ret
   exact ⟨rfl, hb1.trans (hb2.mono hb1.size)⟩
 | true =>
 go_wp2_with fail
 refine (SM.out _ _ _ _).mono ?_
 rintro e w2 ⟨⟨t2, rfl, _⟩, rfl⟩
 clear SM
 cases t2 with
 | false =>
   go_wp2_with fail
   refine (AW.out _ hb1).mono ?_
   rintro e w2 ⟨rfl, hb2⟩
   go_wp2_with fail
   go_ret
   exact ⟨rfl, hb1.trans (hb2.mono hb1.size)⟩
 | true =>
 have hG1 := Grows.of_below HH.out hb1
 have NW := Lib.hid (fun w => mk_New HL.out w)
 go_wp2_with fail
 refine (NW.out _).mono ?_
 rintro e w3 ⟨rfl, hdk, hb3⟩
 have hG3 := hG1.below_ hb3
 have hDI : DeckIn w3 w2.heap.size H := ⟨hdk, hG3.holds, HH.out.none_of_ge hb1.size⟩
 have EX := Lib.hid (mk2_Ext w3 hDI)
 have hgw := Lib.hid hb1.size
 clear NW hdk hb3 hDI hG1 hb1
 go_wp2_with fail
 refine EX.out.mono ?_
 rintro e w4 ⟨XA, xc, x, rfl, hxl, hxv, H4, hx, hd4⟩
 have hG4 := hG3.trans_but hd4.grows hgw.out
 have HXV := Lib.hid hxv
 have HXL := Lib.hid hxl
 have RX := Lib.hid (ref_RawExt w4 hG4.holds hx hxl hxv)
 have hgl : Hid ((extsB x).length ≤ 1099511627) := by
   have := extsB_le x (fun y hy => by have := (hxv y hy).2.2; omega)
   rw [Hid]; omega
 clear EX hd4 hG3 hgw hxl hxv
 go_wp2_with fail
 refine RX.out.mono ?_
 rintro e w5 ⟨r, rfl, hf5⟩
 obtain ⟨GA, gc, rfl, hjunk⟩ := hf5.own.form
 clear hjunk
 obtain ⟨H5, hG5', hgb, hjunk⟩ := Fresh.snapB hG4.holds hf5
 clear hjunk
 have hG5 := hG4.trans hG5'
 have hx5 := hx.mono hG5'.le
 obtain ⟨good, hgood⟩ : ∃ good, extsB x = good := ⟨_, rfl⟩
 rw [hgood] at hgb hgl ⊢
 have SP := Lib.hid (mk_Spoilt w5 hG5.holds rfl hgb hgl.out at_ by_)
 clear RX hf5 hG5' hG4 hx hgood
 go_wp2_with fail
 refine SP.out.mono ?_
 rintro e w6 ⟨SA, sc, sp, rfl, H6, hG6', hsb⟩
 have hG6 := hG5.trans hG6'
 have hx6 := hx5.mono hG6'.le
 have hgb6 := hgb.mono hG6'.le
 have hbb6 := HB.out.mono hG6.le
 have hrw6 := HR.out.mono hG6.le
 obtain ⟨H7, hG7, hl7, hr7⟩ := lit_row (L := lieB) hG6 (((RowC.one (L := lieB) (H := H6) ⟨BA, bc, rfl, hbb6⟩).app (RowC.one (L := lieB) (H := H6) ⟨GA, gc, rfl, hgb6⟩)).app (RowC.one (L := lieB) (H := H6) ⟨SA, sc, rfl, hsb⟩) : RowC lieB H6 [.slice BA b.length bc, .slice GA good.length gc, .slice SA sp.length sc] [b, good, sp]) 24 (by simp)
 have hx7 := Lib.hid (hx6.mono hl7)
 have hrw7 := Lib.hid (hrw6.mono hl7)
 obtain ⟨nb, hnb⟩ : ∃ nb, b.length = nb := ⟨_, rfl⟩
 obtain ⟨ng, hng⟩ : ∃ ng, good.length = ng := ⟨_, rfl⟩
 obtain ⟨ns, hns⟩ : ∃ ns, sp.length = ns := ⟨_, rfl⟩
 obtain ⟨ls, hls⟩ : ∃ ls, [b, good, sp] = ls := ⟨_, rfl⟩
 have HLS : Hid (ls.length = 3) := by rw [Hid, ← hls]; rfl
 replace hr7 : IsRow lieB H7 (some ⟨w6.heap.size, 0, none⟩) 3 [b, good, sp] := hr7
 rw [hls] at hr7
 have hG7' : Grows w H (w6.alloc (.cells #[.slice BA nb bc, .slice GA ng gc, .slice SA ns sc] 24)) H7 := by rw [← hnb, ← hng, ← hns]; exact hG7
 have hr7h := Lib.hid hr7
 rw [hnb, hng, hns]
 clear SP hG5 hG6' hsb hG6 hx6 hgb6 hbb6 hrw6 hG7 hl7 hr7 hgb hx5 hnb hng hns hls
 go_wp2_with fail
 go_loopw [49] (fun v49 wr => ∃ (i : Nat) (Hr : Snap), i ≤ 3 ∧ v49 = .int .i64 (i : Int) ∧ Grows w H wr Hr ∧ H7.le Hr) (fun v49 _ => 3 - (intOf v49).toNat)
 case atStart => exact ⟨0, H7, by omega, rfl, hG7', Snap.le.refl _⟩
 case round =>
   clear hG7'
   obtain ⟨i, Hr, hi, rfl, hGr, hlr⟩ := hrel
   have HI := Lib.hid hi
   have HLR := Lib.hid hlr
   clear hi hlr
   by_cases hi3 : i < 3
   · have hii : (i : Int) < 3 := by omega
     obtain ⟨rb, ro, hra, hat⟩ := hr7h.out.at_ (by rw [HLS.out]; omega)
     obtain ⟨d, hd, hc⟩ := hat i (by rw [HLS.out]; exact hi3)
     obtain ⟨CA, cc, hd', hcb⟩ := hd
     subst hd'
     injection hra with hra
     injection hra with hrb hro
     subst hrb
     subst hro
     have q0 : wr.cell? ⟨w6.heap.size, i, none⟩ = some (.slice CA (ls[i]'(by rw [HLS.out]; exact hi3)).length cc) := by
       have h := hGr.holds.cell (HLR.out.cell (hc 0 _ rfl))
       rw [show 0 + (i * lieB.k + 0) = i from by show 0 + (i * 1 + 0) = i; omega] at h
       exact h
     obtain ⟨cl, hcl⟩ : ∃ cl, ls[i]'(by rw [HLS.out]; exact hi3) = cl := ⟨_, rfl⟩
     rw [hcl] at q0 hcb
     have hcb' := hcb.mono HLR.out
     have D1 := Lib.hid (e_DecodeExt (HT.out.mono hGr.le) wr hGr.holds hcb')
     have HI3 := Lib.hid hi3
     have hGrh := Lib.hid hGr
     have HCB := Lib.hid hcb'
     clear hat hc hcl hcb hi3 hGr hcb'
     go_wp2_with fail
     refine D1.out.mono ?_
     intro e w8 hs
     unfold ExtsOut at hs
     clear D1 q0
     cases hde : decExt cl with
     | error q =>
       rw [hde] at hs
       obtain ⟨rfl, hb8⟩ := hs
       have hG8 := hGrh.out.below_ hb8
       have D2 := Lib.hid (ref_DecodeExt (HT.out.mono hG8.le) w8 hG8.holds HCB.out)
       rw [hde] at D2
       clear hde hb8
       go_wp2_with fail
       refine D2.out.mono ?_
       intro e w9 hs
       unfold ExtsOut at hs
       obtain ⟨rfl, hb9⟩ := hs
       have hG9 := hG8.below_ hb9
       have k1 : ((q : Int) != (q : Int)) = false := bne_self_eq_false _
       have SX := Lib.hid (law_sameExt (c := 0) (d := 0) (A := none) (B := none) (n := 0) (m := 0) (l := []) w9 hG9.holds rfl rfl (by omega) (by simp) (IsRow.nil _ _) (IsRow.nil _ _))
       clear D2 hG8 hb9
       go_wp2_with fail
       refine SX.out.mono ?_
       rintro e w10 ⟨rfl, hb10⟩
       have hG10 := hG9.below_ hb10
       clear SX hG9 hb10
       go_wp2_with fail
       go_roundw
       case rel => exact ⟨i + 1, Hr, by have := HI3.out; omega, by go_num, hG10, HLR.out⟩
       case measure => have := HI3.out; simp [intOf]; omega
     | ok xs =>
       rw [hde] at hs
       obtain ⟨VA, vc, H8, rfl, hG8', hx8⟩ := hs
       have hG8 := hGrh.out.trans hG8'
       have HSH := Lib.hid (decExt_short hde)
       have D2 := Lib.hid (ref_DecodeExt (HT.out.mono hG8.le) w8 hG8.holds (HCB.out.mono hG8'.le))
       rw [hde] at D2
       have HL8 := Lib.hid (HLR.out.trans hG8'.le)
       clear hde hG8'
       go_wp2_with fail
       refine D2.out.mono ?_
       intro e w9 hs
       unfold ExtsOut at hs
       obtain ⟨VB, vd, H9, rfl, hG9', hx9⟩ := hs
       have hG9 := hG8.trans hG9'
       have SX := Lib.hid (law_sameExt (c := vc) (d := vd) (A := VA) (B := VB) (n := xs.length) (m := xs.length) (l := xs) w9 hG9.holds rfl rfl (by have := HSH.out.1; omega) (fun y hy => by have := HSH.out.2 y hy; omega) (hx8.mono hG9'.le) hx9)
       have HL9 := Lib.hid (HL8.out.trans hG9'.le)
       clear D2 hG8 hG9' hx8 hx9
       go_wp2_with fail
       refine SX.out.mono ?_
       rintro e w10 ⟨rfl, hb10⟩
       have hG10 := hG9.below_ hb10
       clear SX hG9 hb10
       go_wp2_with fail
       go_roundw
       case rel => exact ⟨i + 1, H9, by have := HI3.out; omega, by go_num, hG10, HL9.out⟩
       case measure => have := HI3.out; simp [intOf]; omega
   · have hii : ¬ ((i : Int) < 3) := by omega
     have hid : decide ((i : Int) < 3) = false := decide_eq_false hii
     have hx8 := hx7.out.mono HLR.out
     have hrw8 := hrw7.out.mono HLR.out
     obtain ⟨H8, hG8, hl8, hr8⟩ := lit_row (L := lieR) hGr ((RowC.one (L := lieR) (H := Hr) ⟨EA, ec, rfl, hrw8⟩).app (RowC.one (L := lieR) (H := Hr) ⟨XA, xc, rfl, hx8⟩) : RowC lieR Hr [.slice EA raw.length ec, .slice XA x.length xc] [raw, x]) 23 (by simp)
     obtain ⟨nr, hnr⟩ : ∃ nr, raw.length = nr := ⟨_, rfl⟩
     obtain ⟨nx, hnx⟩ : ∃ nx, x.length = nx := ⟨_, rfl⟩
     obtain ⟨ms, hms⟩ : ∃ ms, [raw, x] = ms := ⟨_, rfl⟩
     have HMS : Hid (ms.length = 2) := by rw [Hid, ← hms]; rfl
     replace hr8 : IsRow lieR H8 (some ⟨wr.heap.size, 0, none⟩) 2 [raw, x] := hr8
     rw [hms] at hr8
     have hG8' : Grows w H (wr.alloc (.cells #[.slice EA nr ec, .slice XA nx xc] 23)) H8 := by rw [← hnr, ← hnx]; exact hG8
     have hr8h := Lib.hid hr8
     rw [hnr, hnx]
     clear hx8 hrw8 hG8 hl8 hr8 hnr hnx hms hGr hi3
     go_wp2_with fail
     go_loopw [77] (fun v77 wx => ∃ (j : Nat) (Hx : Snap), j ≤ 2 ∧ v77 = .int .i64 (j : Int) ∧ Grows w H wx Hx ∧ H8.le Hx) (fun v77 _ => 2 - (intOf v77).toNat)
     case atStart => exact ⟨0, H8, by omega, rfl, hG8', Snap.le.refl _⟩
     case round =>
       clear hG8'
       obtain ⟨j, Hx, hj, rfl, hGx, hlx⟩ := hrel
       have HJ := Lib.hid hj
       have HLX := Lib.hid hlx
       clear hj hlx
       by_cases hj2 : j < 2
       · have hji : (j : Int) < 2 := by omega
         obtain ⟨rb, ro, hra, hat⟩ := hr8h.out.at_ (by rw [HMS.out]; omega)
         obtain ⟨d, hd, hc⟩ := hat j (by rw [HMS.out]; exact hj2)
         obtain ⟨CA, cc, hd', hcb⟩ := hd
         subst hd'
         injection hra with hra
         injection hra with hrb hro
         subst hrb
         subst hro
         obtain ⟨cl, hcl⟩ : ∃ cl, ms[j]'(by rw [HMS.out]; exact hj2) = cl := ⟨_, rfl⟩
         rw [hcl] at hc hcb
         have q0 := hGx.holds.cell (HLX.out.cell (hc 0 _ rfl))
         rw [show 0 + (j * lieR.k + 0) = j from by show 0 + (j * 1 + 0) = j; omega] at q0
         have hcb' := hcb.mono HLX.out
         have E1 := Lib.hid (e_EncodeExt _ hGx.holds hcb')
         have HJ2 := Lib.hid hj2
         have hGxh := Lib.hid hGx
         have HCB := Lib.hid hcb'
         clear hat hc hcl hcb hj2 hGx hcb'
         go_wp2_with fail
         refine E1.out.mono ?_
         intro e w8 hs
         unfold BytesOut at hs
         clear E1 q0
         cases hde : encExt cl with
         | error q =>
           rw [hde] at hs
           obtain ⟨rfl, hb8⟩ := hs
           have hG8 := hGxh.out.below_ hb8
           have E2 := Lib.hid (ref_EncodeExt w8 hG8.holds HCB.out)
           rw [hde] at E2
           clear hde hb8
           go_wp2_with fail
           refine E2.out.mono ?_
           intro e w9 hs
           unfold BytesOut at hs
           obtain ⟨rfl, hb9⟩ := hs
           have hG9 := hG8.below_ hb9
           have SA_ := Lib.hid (law_same (A := none) (B := none) (n := 0) (m := 0) (c := 0) (d := 0) (l := []) q rfl rfl (by simp) w9 (Src.nil _ _) (Src.nil _ _))
           clear E2 hG8 hb9
           go_wp2_with fail
           refine SA_.out.mono ?_
           rintro e w10 ⟨rfl, hb10⟩
           have hG10 := hG9.below_ hb10
           clear SA_ hG9 hb10
           go_wp2_with fail
           go_roundw
           case rel => exact ⟨j + 1, Hx, by have := HJ2.out; omega, by go_num, hG10, HLX.out⟩
           case measure => have := HJ2.out; simp [intOf]; omega
         | ok bs =>
           rw [hde] at hs
           obtain ⟨v, rfl, hf8⟩ := hs
           obtain ⟨PA, pc, rfl, hjunk⟩ := hf8.own.form
           clear hjunk
           obtain ⟨H9, hG8', hpb, hjunk⟩ := Fresh.snapB hGxh.out.holds hf8
           clear hjunk
           have hG8 := hGxh.out.trans hG8'
           have HBL := Lib.hid (encExt_le hde)
           have E2 := Lib.hid (ref_EncodeExt w8 hG8.holds (HCB.out.mono hG8'.le))
           rw [hde] at E2
           have HL9 := Lib.hid (HLX.out.trans hG8'.le)
           clear hde hG8' hf8
           go_wp2_with fail
           refine E2.out.mono ?_
           intro e w9 hs
           unfold BytesOut at hs
           obtain ⟨v, rfl, hf9⟩ := hs
           obtain ⟨QA, qc, rfl, hq1, hq2, hqs⟩ := hf9.own.form
           have hG9 := hG8.below_ hf9.2
           have SA_ := law_same (A := PA) (B := QA) (n := bs.length) (m := bs.length) (c := pc) (d := qc) (l := bs) 0 rfl rfl (by have := HBL.out; omega) w9 (Src.of_row hpb.row hG9.holds) hqs
           have SAH := Lib.hid (show Calls Tryd.prog 18 #[.slice PA bs.length pc, .int .i64 0, .slice QA bs.length qc, .int .i64 0] w9 _ from SA_)
           clear E2 hG8 hf9 hq1 hq2 hqs hpb SA_
           go_wp2_with fail
           refine SAH.out.mono ?_
           rintro e w10 ⟨rfl, hb10⟩
           have hG10 := hG9.below_ hb10
           clear SAH hG9 hb10
           go_wp2_with fail
           go_roundw
           case rel => exact ⟨j + 1, H9, by have := HJ2.out; omega, by go_num, hG10, HL9.out⟩
           case measure => have := HJ2.out; simp [intOf]; omega
       · have hji : ¬ ((j : Int) < 2) := by omega
         have hjd : decide ((j : Int) < 2) = false := decide_eq_false hji
         clear hj2
         go_wp2_with fail
         refine (AW.out _ hGx.below).mono ?_
         rintro e w2 ⟨rfl, hb2⟩
         go_wp2_with fail
         go_ret
         exact ⟨rfl, hGx.below.trans (hb2.mono hGx.below.size)⟩
end Go.Proofs.YtlebpackbfcfeaaDoor
