/- squeezed. Walks: the law of the first messag -/
import Derived.Test.YtlebpackbfcfeaaDoorK43
import Derived.Test.YtlebpackbfcfeaaDoorK45
import Derived.Test.YtlebpackbfcfeaaDoorK48
import Derived.Test.YtlebpackbfcfeaaDoorK50
import Derived.Test.YtlebpackbfcfeaaDoorK42
set_option linter.unusedVariables false
set_option linter.unusedSimpArgs false
set_option maxRecDepth 100000
set_option maxHeartbeats 25600000
namespace Go.Proofs.YtlebpackbfcfeaaDoor
open Go.RowKit
def lieF : Lie First where
 k := 5
 pos := by omega
 E := fun H f c => ∃ sa sc ga gc ca cc ea ec, c = [.int .i64 f.method, .slice sa f.suites.length sc, .slice ga f.gx.length gc, .slice ca f.conn.length cc, .slice ea f.ext.length ec] ∧ FirstA H f sa sc ga gc ca cc ea ec
 len := by rintro _ _ _ ⟨_, _, _, _, _, _, _, _, rfl, _⟩; rfl
 one := by rintro _ _ _ ⟨_, _, _, _, _, _, _, _, rfl, _⟩; simp [Value.oneCell']
 mono := by rintro H K x c hl ⟨sa, sc, ga, gc, ca, cc, ea, ec, e, h⟩; exact ⟨sa, sc, ga, gc, ca, cc, ea, ec, e, ⟨h.suites.mono hl, h.gx.mono hl, h.conn.mono hl, h.ext.mono hl⟩⟩
theorem FirstA.mono {H K : Snap} {f : First} {sa : Option Addr} {sc : Nat} {ga : Option Addr} {gc : Nat} {ca : Option Addr} {cc : Nat} {ea : Option Addr} {ec : Nat} (h : FirstA H f sa sc ga gc ca cc ea ec) (hl : H.le K) : FirstA K f sa sc ga gc ca cc ea ec :=
 ⟨h.suites.mono hl, h.gx.mono hl, h.conn.mono hl, h.ext.mono hl⟩
theorem FirstA.zero (H : Snap) : FirstA H ⟨0, [], [], [], []⟩ none 0 none 0 none 0 none 0 := ⟨IsRow.nil _ _, IsBytes.nil _, IsBytes.nil _, IsRow.nil _ _⟩
theorem limited_le {l b : List UInt8} (h : limited l = .ok b) : b.length ≤ 600 := by
 unfold limited at h
 split at h
 ·cases h
 ·injection h with h; subst h; omega
theorem encFirst_le {f : First} {b : List UInt8} (h : encFirst f = .ok b) : b.length ≤ 600 := by
 unfold encFirst at h
 split at h
 ·exact limited_le h
 ·cases h
def ShortF (f : First) : Prop := f.suites.length ≤ 4096 ∧ f.gx.length ≤ 4096 ∧ f.conn.length ≤ 4096 ∧ f.ext.length ≤ 4096 ∧ ∀ x ∈ f.ext, x.val.length ≤ 1099511627776
theorem suitesE_short {x : Itm} {l : List Int} (h : suitesE x = .ok l) : l.length ≤ 8 := by
 unfold suitesE at h
 split at h
 ·split at h
  ·injection h with h; subst h; simp
  ·cases h
 ·split at h
  ·cases h
  ·split at h
   ·cases h
   ·split at h
    ·cases h
    ·split at h
     ·cases h
     ·injection h with h; subst h; omega
theorem decFirst_short {b : List UInt8} {f : First} (h : decFirst b = .ok f) : ShortF f := by
 unfold decFirst at h
 split at h
 ·cases h
 split at h
 ·cases h
 split at h
 ·cases h
 split at h
 ·cases h
 split at h
 ·cases h
 rename_i su hsu
 split at h
 ·cases h
 split at h
 ·cases h
 rename_i hz
 split at h
 ·cases h
 rename_i cn k4 hcn
 split at h
 ·cases h
 rename_i ext hext
 injection h with h
 subst h
 have h1 := suitesE_short hsu
 have h2 := (parseConn_le hcn).2.2
 have h3 := decExt_short hext
 exact ⟨by simp only; omega, by simp only; omega, by simp only; omega, by have := h3.1; simp only; omega, fun x hx => by have := h3.2 x hx; omega⟩
def tabN (q : Nat) : Nat := match q with | 0 => 32 | 1 => 32 | 2 => 32 | 3 => 1 | _ => 64
theorem tabN_le (q : Nat) : tabN q ≤ 64 := by unfold tabN; split <;> omega
theorem tabN_cell (q : Nat) (hq : q < 5) : (#[.int .i64 32, .int .i64 32, .int .i64 32, .int .i64 1, .int .i64 64] : Array Value)[q]? = some (.int .i64 (tabN q : Nat)) := by
 rcases (by omega : q = 0 ∨ q = 1 ∨ q = 2 ∨ q = 3 ∨ q = 4) with rfl | rfl | rfl | rfl | rfl <;> rfl
theorem bytes_data {w w' : World} {H : Snap} {r : Except Nat (List UInt8)} {e : Ending} (hH : Holds w H) (hr : ∀ b, r = .ok b → b.length ≤ 600) (h : BytesOut w r e w') :
  ∃ A c l q H', e = .returned (.tuple #[.slice A l.length c, .int .i64 q]) ∧ l.length ≤ 600 ∧ Grows w H w' H' ∧ IsBytes H' A c l := by
 unfold BytesOut at h
 cases r with
 | error q => obtain ⟨rfl, hb⟩ := h; exact ⟨none, 0, [], q, H, rfl, by simp, Grows.of_below hH hb, IsBytes.nil _⟩
 | ok l =>
  obtain ⟨v, rfl, hf⟩ := h
  obtain ⟨A, c, rfl, _⟩ := hf.own.form
  obtain ⟨H', hG, hb, _⟩ := Fresh.snapB hH hf
  exact ⟨A, c, l, 0, H', rfl, hr l rfl, hG, hb⟩
theorem law24_firsts {H : Snap} (hTab : Tabs H) {A : Option Addr} {c : Nat} {l : List Int} (hl : IsInts H A c l) {raw : First} {m : Int} {sa : Option Addr} {sn sc : Nat} {ga : Option Addr} {gn gc : Nat} {ca : Option Addr} {cn cc : Nat} {ea : Option Addr} {en ec : Nat} (hF : FirstA H raw sa sc ga gc ca cc ea ec)
  (hm : m = raw.method) (hsn : sn = raw.suites.length) (hgn : gn = raw.gx.length) (hcn : cn = raw.conn.length) (hen : en = raw.ext.length) {BA : Option Addr} {bc : Nat} {b : List UInt8} (hb : IsBytes H BA bc b) (at_ by_ : Int) (w : World) (hH : Holds w H) :
  Calls Tryd.prog 4 #[.slice A l.length c, .agg (firstC m sa sn sc ga gn gc ca cn cc ea en ec), .slice BA b.length bc, .int .i64 at_, .int .i64 by_] w fun e w' => e = .returned (.bool true) ∧ Below w.heap.size w w' := by
 have HT := Hh hTab
 have HH := Hh hH
 have HB := Hh hb
 have HF := Hh hF
 have HQ := Hh (And.intro hm (And.intro hsn (And.intro hgn (And.intro hcn hen))))
 have AW := Hh (fun (W : World) (h : Below w.heap.size w W) => law_awake hTab W (hH.below h (Nat.le_refl _)))
 have SM := Hh (fun (n : Nat) (hn : n ≤ 64) (q : Int) (w : World) => mk_Some q hn w)
 have NW := Hh (fun w => mk_New hl w)
 have hR0 := Blk.new w 44 (firstC m sa sn sc ga gn gc ca cn cc ea en ec)
 have hR : Blk (w.alloc (.cells (firstC m sa sn sc ga gn gc ca cn cc ea en ec) 44)) w.heap.size 44 (firstC m sa sn sc ga gn gc ca cn cc ea en ec) := hR0
 have hG := (Grows.refl hH).alloc (.cells (firstC m sa sn sc ga gn gc ca cn cc ea en ec) 44)
 have hsz1 : w.heap.size < (w.alloc (.cells (firstC m sa sn sc ga gn gc ca cn cc ea en ec) 44)).heap.size := hR.lt
 obtain ⟨nb, hnb⟩ : ∃ nb, b.length = nb := ⟨_, rfl⟩
 have HNB := Hh hnb
 rw [hnb]
 clear hTab hl hF hm hsn hgn hcn hen hb hH hR0 hnb
 go_enter Tryd.func4, Tryd.ntmps4
 go_upto_region 1 with fail
 generalize w.alloc (.cells (firstC m sa sn sc ga gn gc ca cn cc ea en ec) 44) = w1 at hR hG hsz1 ⊢
 obtain ⟨R, hRR⟩ : ∃ R, w.heap.size = R := ⟨_, rfl⟩
 have hRw : w.heap.size ≤ R := Nat.le_of_eq hRR
 have hRn : H R = none := by rw [← hRR]; exact HH.out.none_of_ge (Nat.le_refl _)
 rw [hRR] at hR hsz1 ⊢
 clear hRR
 have LT := Hh (law_light w1 hG.holds HQ.out.2.2.2.2 HF.out.ext)
 have r4 := hR.cell 4 rfl
 go_wp2_with fail
 refine LT.out.mono ?_
 rintro e w2 ⟨⟨t1, rfl⟩, hb2⟩
 replace hR := hR.below hb2
 replace hG := hG.below_ hb2
 have hbel := hG.below
 clear LT r4 hb2 hsz1
 cases t1 with
 | false =>
  go_wp2_with fail
  refine (AW.out _ hbel).mono ?_
  rintro e w9 ⟨rfl, hb9⟩
  go_wp2_with fail
  go_ret
  exact ⟨rfl, hbel.trans (hb9.mono hbel.size)⟩
 | true =>
 have r0 := hR.cell 0 rfl
 have r1 := hR.cell 1 rfl
 have r2 := hR.cell 2 rfl
 have r3 := hR.cell 3 rfl
 have r4 := hR.cell 4 rfl
 obtain ⟨Ha, hGa, hla, hra⟩ := lit_row (L := lieB) hG (((RowC.one (L := lieB) (H := H) ⟨ga, gc, rfl, HF.out.gx⟩).app (RowC.one (L := lieB) (H := H) ⟨ca, cc, rfl, HF.out.conn⟩)).app (RowC.one (L := lieB) (H := H) ⟨BA, bc, rfl, HB.out⟩) : RowC lieB H [.slice ga raw.gx.length gc, .slice ca raw.conn.length cc, .slice BA b.length bc] [raw.gx, raw.conn, b]) 24 (by simp)
 replace hra : IsRow lieB Ha (some ⟨w2.heap.size, 0, none⟩) 3 [raw.gx, raw.conn, b] := hra
 have hGa' : Grows w H (w2.alloc (.cells #[.slice ga gn gc, .slice ca cn cc, .slice BA nb bc] 24)) Ha := by rw [HQ.out.2.2.1, HQ.out.2.2.2.1, ← HNB.out]; exact hGa
 have AL := Hh (mk2_All (n := 3) _ hGa'.holds rfl hra)
 have hRa := hR.alloc (.cells #[.slice ga gn gc, .slice ca cn cc, .slice BA nb bc] 24)
 have hbela := hGa'.below
 have HHA := Hh hGa'.le
 clear hGa hla hra hG hR
 go_wp2_with fail
 refine AL.out.mono ?_
 rintro e w3 ⟨⟨t2, rfl⟩, hw3⟩
 replace hbela : Below w.heap.size w w3 := by rw [hw3]; exact hbela
 replace hRa : Blk w3 R 44 (firstC m sa sn sc ga gn gc ca cn cc ea en ec) := by rw [hw3]; exact hRa
 clear AL hw3 hGa' HHA r0 r1 r2 r3 r4 hbel
 have r1 := hRa.cell 1 rfl
 cases t2 with
 | false =>
  go_wp2_with fail
  refine (AW.out _ hbela).mono ?_
  rintro e w9 ⟨rfl, hb9⟩
  go_wp2_with fail
  go_ret
  exact ⟨rfl, hbela.trans (hb9.mono hbela.size)⟩
 | true =>
 by_cases h20 : 20 < sn
 ·have z : (20 : Int) < (sn : Int) := by omega
  have zd : decide ((20 : Int) < (sn : Int)) = true := decide_eq_true z
  have zn : decide (20 < sn) = true := decide_eq_true h20
  clear h20
  go_wp2_with fail
  refine (AW.out _ hbela).mono ?_
  rintro e w9 ⟨rfl, hb9⟩
  go_wp2_with fail
  go_ret
  exact ⟨rfl, hbela.trans (hb9.mono hbela.size)⟩
 have z : ¬ ((20 : Int) < (sn : Int)) := by omega
 have zd : decide ((20 : Int) < (sn : Int)) = false := decide_eq_false z
 have zn : decide (20 < sn) = false := decide_eq_false h20
 clear h20
 have hG1 := Grows.of_below HH.out hbela
 go_wp2_with fail
 refine (NW.out _).mono ?_
 rintro e w4 ⟨rfl, hdk, hb4⟩
 have hG4 := hG1.below_ hb4
 have hR4 := hRa.below hb4
 have hRG := Hh hRa.lt
 have hDI : DeckIn w4 w3.heap.size H := ⟨hdk, hG4.holds, HH.out.none_of_ge hbela.size⟩
 have hgw := Hh hbela.size
 obtain ⟨g, hgg⟩ : ∃ g, w3.heap.size = g := ⟨_, rfl⟩
 rw [hgg] at hDI hRG hdk hgw ⊢
 have hgl := Hh hdk.lt
 have NX := Hh (deck_Next w4 hDI 4 (by omega) (by omega))
 have hd4 := Dealt.refl hDI
 clear NW hdk hb4 hDI hG1 hbela hRa z zd zn r1 hgg
 go_wp2_with fail
 refine NX.out.mono ?_
 rintro e w5 ⟨fm, rfl, hjunk, hdn⟩
 replace hd4 := hd4.trans hdn
 have SU := Hh (mk2_Suites w5 hd4.deck)
 clear NX hdn hjunk
 go_wp2_with fail
 refine SU.out.mono ?_
 rintro e w6 ⟨FS, fsc, fs, rfl, hfl, H6, hfs, hdn⟩
 have HSL := Hh hfl
 have hd6 := hd4.trans hdn
 have NX := Hh (deck_Next w6 hd6.deck 99 (by omega) (by omega))
 clear SU hdn hfl hd4
 go_wp2_with fail
 refine NX.out.mono ?_
 rintro e w7 ⟨qs, rfl, hjunk, hdn⟩
 have hd7 := hd6.trans hdn
 have hTb := hd7.newBlk 3 #[.int .i64 32, .int .i64 32, .int .i64 32, .int .i64 1, .int .i64 64]
 have hTg := hd7.gtSize
 have hd8 := hd7.alloc (.cells #[.int .i64 32, .int .i64 32, .int .i64 32, .int .i64 1, .int .i64 64] 3)
 have NX2 := Hh (deck_Next _ hd8.deck 5 (by omega) (by omega))
 clear NX hdn hd6 hd7 hjunk
 go_wp2_with fail
 generalize w7.alloc (.cells #[.int .i64 32, .int .i64 32, .int .i64 32, .int .i64 1, .int .i64 64] 3) = w8 at hTb hd8 NX2 ⊢
 refine NX2.out.mono ?_
 rintro e w9 ⟨q5, rfl, hq5, hdn⟩
 have hd9 := hd8.trans hdn
 have t0 := (hTb.dealt hdn hTg).cell q5 (tabN_cell q5 (by omega))
 have hq5i : (q5 : Int) ≤ 5 := by omega
 obtain ⟨tn, htn⟩ : ∃ tn, tabN q5 = tn := ⟨_, rfl⟩
 have HTN := Hh (show tn ≤ 64 by rw [← htn]; exact tabN_le _)
 rw [htn] at t0
 have SO := Hh (SM.out tn HTN.out (qs : Int) w9)
 have hq50 : (0 : Int) ≤ (q5 : Int) := by omega
 clear NX2 hTb hTg hd8 hdn htn
 go_wp2_with fail
 refine SO.out.mono ?_
 rintro e w10 ⟨GA, gac, fg, rfl, hgl5, hf10⟩
 obtain ⟨H10, hGn, hgb, hjunk⟩ := Fresh.snapB hd9.holds hf10
 have HGL := Hh hgl5
 have hd10 := hd9.grown hGn
 have hfs10 := hfs.mono hGn.le
 have BY := Hh (mk_Bytes w10 hd10.deck 7 (by omega) (by omega))
 clear SO hf10 hGn hjunk hgl5 t0 hd9 hfs hq5 hq5i hq50 SM
 go_wp2_with fail
 refine BY.out.mono ?_
 rintro e w11 ⟨CA, cac, fc, rfl, hcl, H11, hcb, hdn⟩
 have HCL := Hh hcl
 have hd11 := hd10.trans hdn
 have hfs11 := hfs10.mono hdn.le
 have hgb11 := hgb.mono hdn.le
 have EX := Hh (mk2_Ext w11 hd11.deck)
 clear BY hdn hcl hfs10 hgb hd10
 go_wp2_with fail
 refine EX.out.mono ?_
 rintro e w12 ⟨XA, xac, fx, rfl, hxl, hxv, H12, hxr, hdn⟩
 have HXL := Hh (And.intro hxl hxv)
 have hd12 := hd11.trans hdn
 have HMA := Hh (show FirstA H12 ⟨(fm : Int), fs, fg, fc, fx⟩ FS fsc GA gac CA cac XA xac from ⟨hfs11.mono hdn.le, hgb11.mono hdn.le, hcb.mono hdn.le, hxr⟩)
 have hR12 := hR4.dealt hd12 (by have := hRG.out; omega)
 have hG12 := hG4.trans_but hd12.grows hgw.out
 clear EX hdn hxl hxv hfs11 hgb11 hcb hxr hd11 hd12 hR4 hG4
 have hM0 := Blk.new w12 44 #[.int .i64 0, .slice none 0 0, .slice none 0 0, .slice none 0 0, .slice none 0 0]
 have hMn : H12 w12.heap.size = none := hG12.holds.none_of_ge (Nat.le_refl _)
 have hMw := hG12.size
 have hMR := hR12.lt
 have hG13 := hG12.alloc zeroFO
 have hR13 := hR12.alloc zeroFO
 clear hG12 hR12
 go_wp2_with (with_reducible refine stop_store ?_)
 unfold Stopped
 refine wpList_store_item rfl _ _ _ rfl rfl _ _ rfl rfl _ _ hM0 size_first rfl (one5 _ _ _ _ _ rfl rfl rfl rfl rfl) fun w14 hM14 hg14 => ?_
 have hG14 := hG13.grownOwn hMn hMw hg14
 have hR14 := hR13.gr hg14 (by omega)
 obtain ⟨M, hMM⟩ : ∃ M, w12.heap.size = M := ⟨_, rfl⟩
 obtain ⟨mf, hmf⟩ : ∃ mf : First, (⟨(fm : Int), fs, fg, fc, fx⟩ : First) = mf := ⟨_, rfl⟩
 rw [hmf] at HMA
 obtain ⟨mm, hmm⟩ : ∃ mm, (fm : Int) = mm := ⟨_, rfl⟩
 obtain ⟨n1, hn1⟩ : ∃ n1, fs.length = n1 := ⟨_, rfl⟩
 obtain ⟨n2, hn2⟩ : ∃ n2, tn = n2 := ⟨_, rfl⟩
 obtain ⟨n3, hn3⟩ : ∃ n3, fc.length = n3 := ⟨_, rfl⟩
 obtain ⟨n4, hn4⟩ : ∃ n4, fx.length = n4 := ⟨_, rfl⟩
 have HMQ := Hh (show mm = mf.method ∧ n1 = mf.suites.length ∧ n2 = mf.gx.length ∧ n3 = mf.conn.length ∧ n4 = mf.ext.length by
  rw [← hmf]; exact ⟨hmm.symm, hn1.symm, by simp only; rw [← hn2]; exact HGL.out.symm, hn3.symm, hn4.symm⟩)
 rw [hmm, hn1, hn2, hn3, hn4] at hM14
 rw [hMM] at hM14 ⊢
 rw [hmm, hn1, hn2, hn3, hn4]
 clear hMM hmf hmm hn1 hn2 hn3 hn4 hG13 hR13 hM0 hMn hMw hMR hg14 HGL HTN
 have r0 := hR14.cell 0 rfl
 have r1 := hR14.cell 1 rfl
 have r2 := hR14.cell 2 rfl
 have r3 := hR14.cell 3 rfl
 have r4 := hR14.cell 4 rfl
 have m0 := hM14.cell 0 rfl
 have m1 := hM14.cell 1 rfl
 have m2 := hM14.cell 2 rfl
 have m3 := hM14.cell 3 rfl
 have m4 := hM14.cell 4 rfl
 obtain ⟨Hb, hGb, hlb, hrb⟩ := lit_row (L := lieF) hG14 ((RowC.one (L := lieF) (H := H12) ⟨sa, sc, ga, gc, ca, cc, ea, ec, rfl, HF.out.mono hG14.le⟩).app (RowC.one (L := lieF) (H := H12) ⟨FS, fsc, GA, gac, CA, cac, XA, xac, rfl, HMA.out⟩) : RowC lieF H12 [.int .i64 raw.method, .slice sa raw.suites.length sc, .slice ga raw.gx.length gc, .slice ca raw.conn.length cc, .slice ea raw.ext.length ec, .int .i64 mf.method, .slice FS mf.suites.length fsc, .slice GA mf.gx.length gac, .slice CA mf.conn.length cac, .slice XA mf.ext.length xac] [raw, mf]) 44 (by simp)
 have hGb' : Grows w H (w14.alloc (.cells #[.int .i64 m, .slice sa sn sc, .slice ga gn gc, .slice ca cn cc, .slice ea en ec, .int .i64 mm, .slice FS n1 fsc, .slice GA n2 gac, .slice CA n3 cac, .slice XA n4 xac] 44)) Hb := by
  obtain ⟨e1, e2, e3, e4, e5⟩ := HQ.out
  obtain ⟨f1, f2, f3, f4, f5⟩ := HMQ.out
  rw [e1, e2, e3, e4, e5, f1, f2, f3, f4, f5]; exact hGb
 replace hrb : IsRow lieF Hb (some ⟨w14.heap.size, 0, none⟩) 2 [raw, mf] := hrb
 have hMb := hM14.alloc (.cells #[.int .i64 m, .slice sa sn sc, .slice ga gn gc, .slice ca cn cc, .slice ea en ec, .int .i64 mm, .slice FS n1 fsc, .slice GA n2 gac, .slice CA n3 cac, .slice XA n4 xac] 44)
 have HMA2 := Hh (HMA.out.mono hlb)
 obtain ⟨ms, hms⟩ : ∃ ms, [raw, mf] = ms := ⟨_, rfl⟩
 have HMS : Hid (ms.length = 2) := by rw [Hid, ← hms]; rfl
 rw [hms] at hrb
 have hrbh := Hh hrb
 clear hGb hlb hrb hms hG14 hR14 HMA
 go_wp2_with fail
 clear r0 r1 r2 r3 r4 m0 m1 m2 m3 m4
 obtain ⟨B14, hB14⟩ : ∃ B14, w14.heap.size = B14 := ⟨_, rfl⟩
 generalize w14.alloc (.cells #[.int .i64 m, .slice sa sn sc, .slice ga gn gc, .slice ca cn cc, .slice ea en ec, .int .i64 mm, .slice FS n1 fsc, .slice GA n2 gac, .slice CA n3 cac, .slice XA n4 xac] 44) = w15 at hGb' hMb ⊢
 rw [hB14] at hrbh ⊢
 clear hB14 hM14
 go_loopw [71] (fun v71 wr => ∃ (j : Nat) (Hr : Snap), j ≤ 2 ∧ v71 = .int .i64 (j : Int) ∧ Grows w H wr Hr ∧ Hb.le Hr ∧ Blk wr M 44 (firstC mm FS n1 fsc GA n2 gac CA n3 cac XA n4 xac)) (fun v71 _ => 2 - (intOf v71).toNat)
 case atStart => exact ⟨0, Hb, by omega, rfl, hGb', Snap.le.refl _, hMb⟩
 case round =>
  clear hGb' hMb
  obtain ⟨j, Hx, hj, rfl, hGx, hlx, hMx⟩ := hrel
  have HJ := Hh hj
  have HLX := Hh hlx
  clear hj hlx
  by_cases hj2 : j < 2
  ·have hji : (j : Int) < 2 := by omega
   obtain ⟨rb, ro, hra, hat⟩ := hrbh.out.at_ (by rw [HMS.out]; omega)
   obtain ⟨d, hd, hc⟩ := hat j (by rw [HMS.out]; exact hj2)
   injection hra with hra
   injection hra with hrb hro
   subst hrb
   subst hro
   obtain ⟨cl, hcl⟩ : ∃ cl, ms[j]'(by rw [HMS.out]; exact hj2) = cl := ⟨_, rfl⟩
   rw [hcl] at hd
   obtain ⟨sa', sc', ga', gc', ca', cc', ea', ec', hd', hFA⟩ := hd
   subst hd'
   have q0 := hGx.holds.cell (HLX.out.cell (hc 0 _ rfl))
   have q1 := hGx.holds.cell (HLX.out.cell (hc 1 _ rfl))
   have q2 := hGx.holds.cell (HLX.out.cell (hc 2 _ rfl))
   have q3 := hGx.holds.cell (HLX.out.cell (hc 3 _ rfl))
   have q4 := hGx.holds.cell (HLX.out.cell (hc 4 _ rfl))
   rw [show 0 + (j * lieF.k + 0) = j * 5 from by show 0 + (j * 5 + 0) = j * 5; omega] at q0
   rw [show 0 + (j * lieF.k + 1) = j * 5 + 1 from by show 0 + (j * 5 + 1) = j * 5 + 1; omega] at q1
   rw [show 0 + (j * lieF.k + 2) = j * 5 + 2 from by show 0 + (j * 5 + 2) = j * 5 + 2; omega] at q2
   rw [show 0 + (j * lieF.k + 3) = j * 5 + 3 from by show 0 + (j * 5 + 3) = j * 5 + 3; omega] at q3
   rw [show 0 + (j * lieF.k + 4) = j * 5 + 4 from by show 0 + (j * 5 + 4) = j * 5 + 4; omega] at q4
   have HFA := Hh (hFA.mono HLX.out)
   obtain ⟨xm, hxm⟩ : ∃ xm, cl.method = xm := ⟨_, rfl⟩
   obtain ⟨x1, hx1⟩ : ∃ x1, cl.suites.length = x1 := ⟨_, rfl⟩
   obtain ⟨x2, hx2⟩ : ∃ x2, cl.gx.length = x2 := ⟨_, rfl⟩
   obtain ⟨x3, hx3⟩ : ∃ x3, cl.conn.length = x3 := ⟨_, rfl⟩
   obtain ⟨x4, hx4⟩ : ∃ x4, cl.ext.length = x4 := ⟨_, rfl⟩
   rw [hxm] at q0
   rw [hx1] at q1
   rw [hx2] at q2
   rw [hx3] at q3
   rw [hx4] at q4
   have HXQ := Hh (show xm = cl.method ∧ x1 = cl.suites.length ∧ x2 = cl.gx.length ∧ x3 = cl.conn.length ∧ x4 = cl.ext.length from ⟨hxm.symm, hx1.symm, hx2.symm, hx3.symm, hx4.symm⟩)
   have hN0 := Blk.new wr 44 #[.int .i64 0, .slice none 0 0, .slice none 0 0, .slice none 0 0, .slice none 0 0]
   have hNn : Hx wr.heap.size = none := hGx.holds.none_of_ge (Nat.le_refl _)
   have hNw := Hh (And.intro hGx.size hMx.lt)
   have HJ2 := Hh hj2
   have hG1 := hGx.alloc zeroFO
   have hM1 := hMx.alloc zeroFO
   clear hat hc hcl hFA hj2 hxm hx1 hx2 hx3 hx4 hGx hMx
   go_wp2_with (with_reducible refine stop_store ?_)
   unfold Stopped
   refine wpList_store_item rfl _ _ _ rfl rfl _ _ rfl rfl _ _ hN0 size_first rfl (one5 _ _ _ _ _ rfl rfl rfl rfl rfl) fun wa hNa hga => ?_
   have hGa := hG1.grownOwn hNn hNw.out.1 hga
   have hMa := hM1.grown hga (by intro e; injection e with e; have := hNw.out.2; omega)
   obtain ⟨NB, hNB⟩ : ∃ NB, wr.heap.size = NB := ⟨_, rfl⟩
   rw [hNB] at hNa hNn ⊢
   clear hNB hG1 hM1 hN0 hga q0 q1 q2 q3 q4
   have r0 := hNa.cell 0 rfl
   have r1 := hNa.cell 1 rfl
   have r2 := hNa.cell 2 rfl
   have r3 := hNa.cell 3 rfl
   have r4 := hNa.cell 4 rfl
   have E1 := Hh (e_EncodeFirst wa hGa.holds HFA.out HXQ.out.1 HXQ.out.2.1 HXQ.out.2.2.1 HXQ.out.2.2.2.1 HXQ.out.2.2.2.2)
   go_wp2_with fail
   refine E1.out.mono ?_
   intro e w8 hs
   unfold BytesOut at hs
   clear E1 r0 r1 r2 r3 r4
   cases hde : encFirst cl with
   | error q =>
    rw [hde] at hs
    obtain ⟨rfl, hb8⟩ := hs
    have hG8 := hGa.below_ hb8
    have hN8 := hNa.below hb8
    have hM8 := hMa.below hb8
    have r0 := hN8.cell 0 rfl
    have r1 := hN8.cell 1 rfl
    have r2 := hN8.cell 2 rfl
    have r3 := hN8.cell 3 rfl
    have r4 := hN8.cell 4 rfl
    have E2 := Hh (ref_EncodeFirst w8 hG8.holds HFA.out HXQ.out.1 HXQ.out.2.1 HXQ.out.2.2.1 HXQ.out.2.2.2.1 HXQ.out.2.2.2.2)
    rw [hde] at E2
    clear hde hb8 hGa hNa hMa
    go_wp2_with fail
    refine E2.out.mono ?_
    intro e w9 hs
    unfold BytesOut at hs
    obtain ⟨rfl, hb9⟩ := hs
    have hG9 := hG8.below_ hb9
    have hM9 := hM8.below hb9
    have SA_ := Hh (law_same (A := none) (B := none) (n := 0) (m := 0) (c := 0) (d := 0) (l := []) q rfl rfl (by simp) w9 (Src.nil _ _) (Src.nil _ _))
    clear E2 hG8 hb9 hN8 hM8 r0 r1 r2 r3 r4
    go_wp2_with fail
    refine SA_.out.mono ?_
    rintro e w10 ⟨rfl, hb10⟩
    have hG10 := hG9.below_ hb10
    have hM10 := hM9.below hb10
    clear SA_ hG9 hb10 hM9
    go_wp2_with fail
    go_roundw
    case rel => exact ⟨j + 1, Hx, by have := HJ2.out; omega, by go_num, hG10, HLX.out, hM10⟩
    case measure => have := HJ2.out; simp [intOf]; omega
   | ok bs =>
    rw [hde] at hs
    obtain ⟨v, rfl, hf8⟩ := hs
    obtain ⟨PA, pc, rfl, hjunk⟩ := hf8.own.form
    clear hjunk
    obtain ⟨H9, hG8', hpb, hjunk⟩ := Fresh.snapB hGa.holds hf8
    clear hjunk
    have hG8 := hGa.trans hG8'
    have hN8 := hNa.below hf8.2
    have hM8 := hMa.below hf8.2
    have r0 := hN8.cell 0 rfl
    have r1 := hN8.cell 1 rfl
    have r2 := hN8.cell 2 rfl
    have r3 := hN8.cell 3 rfl
    have r4 := hN8.cell 4 rfl
    have HBL := Hh (encFirst_le hde)
    have E2 := Hh (ref_EncodeFirst w8 hG8.holds (HFA.out.mono hG8'.le) HXQ.out.1 HXQ.out.2.1 HXQ.out.2.2.1 HXQ.out.2.2.2.1 HXQ.out.2.2.2.2)
    rw [hde] at E2
    have HL9 := Hh (HLX.out.trans hG8'.le)
    clear hde hG8' hf8 hGa hNa hMa
    go_wp2_with fail
    refine E2.out.mono ?_
    intro e w9 hs
    unfold BytesOut at hs
    obtain ⟨v, rfl, hf9⟩ := hs
    obtain ⟨QA, qc, rfl, hq1, hq2, hqs⟩ := hf9.own.form
    have hG9 := hG8.below_ hf9.2
    have hM9 := hM8.below hf9.2
    have SA_ := law_same (A := PA) (B := QA) (n := bs.length) (m := bs.length) (c := pc) (d := qc) (l := bs) 0 rfl rfl (by have := HBL.out; omega) w9 (Src.of_row hpb.row hG9.holds) hqs
    have SAH := Hh (show Calls Tryd.prog 18 #[.slice PA bs.length pc, .int .i64 0, .slice QA bs.length qc, .int .i64 0] w9 _ from SA_)
    clear E2 hG8 hf9 hq1 hq2 hqs hpb SA_ hN8 hM8 r0 r1 r2 r3 r4
    go_wp2_with fail
    refine SAH.out.mono ?_
    rintro e w10 ⟨rfl, hb10⟩
    have hG10 := hG9.below_ hb10
    have hM10 := hM9.below hb10
    clear SAH hG9 hb10 hM9
    go_wp2_with fail
    go_roundw
    case rel => exact ⟨j + 1, H9, by have := HJ2.out; omega, by go_num, hG10, HL9.out, hM10⟩
    case measure => have := HJ2.out; simp [intOf]; omega
  ·have hji : ¬ ((j : Int) < 2) := by omega
   have hjd : decide ((j : Int) < 2) = false := decide_eq_false hji
   clear hj2
   have r0 := hMx.cell 0 rfl
   have r1 := hMx.cell 1 rfl
   have r2 := hMx.cell 2 rfl
   have r3 := hMx.cell 3 rfl
   have r4 := hMx.cell 4 rfl
   have E1 := Hh (ref_EncodeFirst wr hGx.holds (HMA2.out.mono HLX.out) HMQ.out.1 HMQ.out.2.1 HMQ.out.2.2.1 HMQ.out.2.2.2.1 HMQ.out.2.2.2.2)
   have HGX := Hh hGx
   clear hGx hMx
   go_wp2_with fail
   refine E1.out.mono ?_
   intro e w8 hs
   obtain ⟨GA', gc', good, ge, H8, rfl, hgl8, hG8', hgb⟩ := bytes_data HGX.out.holds (fun b h => encFirst_le h) hs
   have hG8 := HGX.out.trans hG8'
   have HGL := Hh hgl8
   have SP := Hh (mk_Spoilt w8 hG8.holds rfl hgb (by have := HGL.out; omega) at_ by_)
   clear E1 hs hG8' hgl8 r0 r1 r2 r3 r4 HGX
   go_wp2_with fail
   refine SP.out.mono ?_
   rintro e w9 ⟨ZA, zc, sp, rfl, H9, hG9', hxb⟩
   have hG9 := hG8.trans hG9'
   have hgb9 := hgb.mono hG9'.le
   have hbb9 := HB.out.mono hG9.le
   obtain ⟨Ha, hGa, hla, hra⟩ := lit_row (L := lieB) hG9 (((RowC.one (L := lieB) (H := H9) ⟨BA, bc, rfl, hbb9⟩).app (RowC.one (L := lieB) (H := H9) ⟨GA', gc', rfl, hgb9⟩)).app (RowC.one (L := lieB) (H := H9) ⟨ZA, zc, rfl, hxb⟩) : RowC lieB H9 [.slice BA b.length bc, .slice GA' good.length gc', .slice ZA sp.length zc] [b, good, sp]) 24 (by simp)
   obtain ⟨ng, hng⟩ : ∃ ng, good.length = ng := ⟨_, rfl⟩
   obtain ⟨ns, hns⟩ : ∃ ns, sp.length = ns := ⟨_, rfl⟩
   obtain ⟨ls, hls⟩ : ∃ ls, [b, good, sp] = ls := ⟨_, rfl⟩
   have HLS : Hid (ls.length = 3) := by rw [Hid, ← hls]; rfl
   replace hra : IsRow lieB Ha (some ⟨w9.heap.size, 0, none⟩) 3 [b, good, sp] := hra
   rw [hls] at hra
   have hGa' : Grows w H (w9.alloc (.cells #[.slice BA nb bc, .slice GA' ng gc', .slice ZA ns zc] 24)) Ha := by rw [← HNB.out, ← hng, ← hns]; exact hGa
   have hrah := Hh hra
   rw [hng, hns]
   clear SP hG8 hG9' hxb hG9 hgb hgb9 hbb9 hGa hla hra hng hns hls HGL
   go_wp2_with fail
   go_loopw [105] (fun v62 wr => ∃ (i : Nat) (Hr : Snap), i ≤ 3 ∧ v62 = .int .i64 (i : Int) ∧ Grows w H wr Hr ∧ Ha.le Hr) (fun v62 _ => 3 - (intOf v62).toNat)
   case atStart => exact ⟨0, Ha, by omega, rfl, hGa', Snap.le.refl _⟩
   case round =>
    clear hGa'
    obtain ⟨i, Hr, hi, rfl, hGr, hlr⟩ := hrel
    have HI := Hh hi
    have HLR := Hh hlr
    clear hi hlr
    by_cases hi3 : i < 3
    ·have hii : (i : Int) < 3 := by omega
     obtain ⟨rb, ro, hrb0, hat⟩ := hrah.out.at_ (by rw [HLS.out]; omega)
     obtain ⟨d, hd, hc⟩ := hat i (by rw [HLS.out]; exact hi3)
     obtain ⟨CA', cc', hd', hcb⟩ := hd
     subst hd'
     injection hrb0 with hrb0
     injection hrb0 with hrb hro
     subst hrb
     subst hro
     obtain ⟨cl, hcl⟩ : ∃ cl, ls[i]'(by rw [HLS.out]; exact hi3) = cl := ⟨_, rfl⟩
     rw [hcl] at hc hcb
     have q0 := hGr.holds.cell (HLR.out.cell (hc 0 _ rfl))
     rw [show 0 + (i * lieB.k + 0) = i from by show 0 + (i * 1 + 0) = i; omega] at q0
     have hcb' := hcb.mono HLR.out
     have D1 := Hh (e_DecodeFirst (HT.out.mono hGr.le) _ hGr.holds hcb')
     have HI3 := Hh hi3
     have hGrh := Hh hGr
     have HCB := Hh hcb'
     clear hat hc hcl hcb hi3 hGr hcb'
     go_wp2_with fail
     refine D1.out.mono ?_
     intro e w10 hs
     unfold FirstOut at hs
     clear D1 q0
     cases hde : decFirst cl with
     | error q =>
      rw [hde] at hs
      obtain ⟨rfl, hb10⟩ := hs
      have hG10 := hGrh.out.below_ hb10
      obtain ⟨H10, hH10⟩ : ∃ H10, Hr = H10 := ⟨_, rfl⟩
      have HL10 : Hid (Hr.le H10) := by rw [Hid, hH10]; exact Snap.le.refl _
      rw [hH10] at hG10
      clear hb10 hH10
      have hT0 := Blk.new w10 44 #[.int .i64 0, .slice none 0 0, .slice none 0 0, .slice none 0 0, .slice none 0 0]
      have hTn : H10 w10.heap.size = none := hG10.holds.none_of_ge (Nat.le_refl _)
      have hTw := Hh hG10.size
      have hG11 := hG10.alloc zeroFO
      clear hG10
      go_wp2_with (with_reducible refine stop_store ?_)
      unfold Stopped
      refine wpList_store_item rfl _ _ _ rfl rfl _ _ rfl rfl _ _ hT0 size_first rfl (one5 _ _ _ _ _ rfl rfl rfl rfl rfl) fun w12 hT12 hg12 => ?_
      have hG12 := hG11.grownOwn hTn hTw.out hg12
      obtain ⟨P, hP⟩ : ∃ P, w10.heap.size = P := ⟨_, rfl⟩
      rw [hP] at hT12 hTn hTw ⊢
      clear hP hG11 hT0 hg12
      have D2 := Hh (ref_DecodeFirst (HT.out.mono hG12.le) w12 hG12.holds rfl (HCB.out.mono HL10.out))
      rw [hde] at D2
      clear hde
      go_wp2_with fail
      refine D2.out.mono ?_
      intro e w13 hs
      unfold FirstOut at hs
      clear D2
      obtain ⟨rfl, hb13⟩ := hs
      have hG13 := hG12.below_ hb13
      have hT13 := hT12.below hb13
      obtain ⟨H13, hH13⟩ : ∃ H13, H10 = H13 := ⟨_, rfl⟩
      rw [hH13] at hG13 HL10 hTn
      have HL13 := HL10
      have HFA1 := Hh (FirstA.zero H13)
      have HFA2 := Hh (FirstA.zero H13)
      clear hG12 hb13 hT12 hH13 HL10
      have hU0 := Blk.new w13 44 #[.int .i64 0, .slice none 0 0, .slice none 0 0, .slice none 0 0, .slice none 0 0]
      have hUn : H13 w13.heap.size = none := hG13.holds.none_of_ge (Nat.le_refl _)
      have hUw := Hh (And.intro hG13.size hT13.lt)
      have hG14 := hG13.alloc zeroFO
      have hT14 := hT13.alloc zeroFO
      clear hG13 hT13
      go_wp2_with (with_reducible refine stop_store ?_)
      unfold Stopped
      refine wpList_store_item rfl _ _ _ rfl rfl _ _ rfl rfl _ _ hU0 size_first rfl (one5 _ _ _ _ _ rfl rfl rfl rfl rfl) fun w15 hU15 hg15 => ?_
      have hG15 := hG14.grownOwn hUn hUw.out.1 hg15
      have hT15 := hT14.grown hg15 (by intro e; injection e with e; have := hUw.out.2; omega)
      obtain ⟨Q, hQ⟩ : ∃ Q, w13.heap.size = Q := ⟨_, rfl⟩
      rw [hQ] at hU15 ⊢
      clear hQ hG14 hT14 hU0 hg15 hUn hUw
      have r0 := hT15.cell 0 rfl
      have r1 := hT15.cell 1 rfl
      have r2 := hT15.cell 2 rfl
      have r3 := hT15.cell 3 rfl
      have r4 := hT15.cell 4 rfl
      have m0 := hU15.cell 0 rfl
      have m1 := hU15.cell 1 rfl
      have m2 := hU15.cell 2 rfl
      have m3 := hU15.cell 3 rfl
      have m4 := hU15.cell 4 rfl
      have qe : ((q : Int) != (q : Int)) = false := bne_self_eq_false _
      have SF := Hh (law_sameFirst (m := 0) (sn := 0) (gn := 0) (cn := 0) (en := 0) w15 hG15.holds HFA1.out HFA2.out rfl rfl rfl rfl (by omega) (by simp))
      go_wp2_with fail
      refine SF.out.mono ?_
      rintro e w16 ⟨rfl, hb16⟩
      have hG16 := hG15.below_ hb16
      clear SF hb16 hG15 hT15 hU15 r0 r1 r2 r3 r4 m0 m1 m2 m3 m4
      go_wp2_with fail
      go_roundw
      case rel => exact ⟨i + 1, H13, by have := HI3.out; omega, by go_num, hG16, HLR.out.trans HL13.out⟩
      case measure => have := HI3.out; simp [intOf]; omega
     | ok f =>
      rw [hde] at hs
      obtain ⟨sa1, sc1, ga1, gc1, ca1, cc1, ea1, ec1, H10, rfl, hGn, hFA⟩ := hs
      have hG10 := hGrh.out.trans hGn
      have HFA := Hh hFA
      have HL10 := Hh hGn.le
      have HSH := Hh (decFirst_short hde)
      obtain ⟨xm, hxm⟩ : ∃ xm, f.method = xm := ⟨_, rfl⟩
      obtain ⟨x1, hx1⟩ : ∃ x1, f.suites.length = x1 := ⟨_, rfl⟩
      obtain ⟨x2, hx2⟩ : ∃ x2, f.gx.length = x2 := ⟨_, rfl⟩
      obtain ⟨x3, hx3⟩ : ∃ x3, f.conn.length = x3 := ⟨_, rfl⟩
      obtain ⟨x4, hx4⟩ : ∃ x4, f.ext.length = x4 := ⟨_, rfl⟩
      have HXQ := Hh (And.intro hxm (And.intro hx1 (And.intro hx2 (And.intro hx3 hx4))))
      have HXE := Hh (show xm = f.method ∧ x1 = f.suites.length ∧ x2 = f.gx.length ∧ x3 = f.conn.length ∧ x4 = f.ext.length from ⟨hxm.symm, hx1.symm, hx2.symm, hx3.symm, hx4.symm⟩)
      have HXB := Hh (show x1 ≤ 4096 ∧ x2 ≤ 4096 ∧ x3 ≤ 4096 ∧ x4 ≤ 4096 from ⟨by rw [← hx1]; exact HSH.out.1, by rw [← hx2]; exact HSH.out.2.1, by rw [← hx3]; exact HSH.out.2.2.1, by rw [← hx4]; exact HSH.out.2.2.2.1⟩)
      rw [hxm, hx1, hx2, hx3, hx4]
      clear hGn hFA hxm hx1 hx2 hx3 hx4
      have hT0 := Blk.new w10 44 #[.int .i64 0, .slice none 0 0, .slice none 0 0, .slice none 0 0, .slice none 0 0]
      have hTn : H10 w10.heap.size = none := hG10.holds.none_of_ge (Nat.le_refl _)
      have hTw := Hh hG10.size
      have hG11 := hG10.alloc zeroFO
      clear hG10
      go_wp2_with (with_reducible refine stop_store ?_)
      unfold Stopped
      refine wpList_store_item rfl _ _ _ rfl rfl _ _ rfl rfl _ _ hT0 size_first rfl (one5 _ _ _ _ _ rfl rfl rfl rfl rfl) fun w12 hT12 hg12 => ?_
      have hG12 := hG11.grownOwn hTn hTw.out hg12
      obtain ⟨P, hP⟩ : ∃ P, w10.heap.size = P := ⟨_, rfl⟩
      rw [hP] at hT12 hTn hTw ⊢
      clear hP hG11 hT0 hg12
      have D2 := Hh (ref_DecodeFirst (HT.out.mono hG12.le) w12 hG12.holds rfl (HCB.out.mono HL10.out))
      rw [hde] at D2
      clear hde
      go_wp2_with fail
      refine D2.out.mono ?_
      intro e w13 hs
      unfold FirstOut at hs
      clear D2
      obtain ⟨sa2, sc2, ga2, gc2, ca2, cc2, ea2, ec2, H13, rfl, hGn, hFA2⟩ := hs
      have hG13 := hG12.trans hGn
      have HFA1 := Hh (HFA.out.mono hGn.le)
      have HFA2 := Hh hFA2
      have HL13 := Hh (HL10.out.trans hGn.le)
      have hT13 := hT12.below hGn.below
      rw [HXQ.out.1, HXQ.out.2.1, HXQ.out.2.2.1, HXQ.out.2.2.2.1, HXQ.out.2.2.2.2]
      clear hG12 hGn hT12 hFA2 HFA
      have hU0 := Blk.new w13 44 #[.int .i64 0, .slice none 0 0, .slice none 0 0, .slice none 0 0, .slice none 0 0]
      have hUn : H13 w13.heap.size = none := hG13.holds.none_of_ge (Nat.le_refl _)
      have hUw := Hh (And.intro hG13.size hT13.lt)
      have hG14 := hG13.alloc zeroFO
      have hT14 := hT13.alloc zeroFO
      clear hG13 hT13
      go_wp2_with (with_reducible refine stop_store ?_)
      unfold Stopped
      refine wpList_store_item rfl _ _ _ rfl rfl _ _ rfl rfl _ _ hU0 size_first rfl (one5 _ _ _ _ _ rfl rfl rfl rfl rfl) fun w15 hU15 hg15 => ?_
      have hG15 := hG14.grownOwn hUn hUw.out.1 hg15
      have hT15 := hT14.grown hg15 (by intro e; injection e with e; have := hUw.out.2; omega)
      obtain ⟨Q, hQ⟩ : ∃ Q, w13.heap.size = Q := ⟨_, rfl⟩
      rw [hQ] at hU15 ⊢
      clear hQ hG14 hT14 hU0 hg15 hUn hUw
      have r0 := hT15.cell 0 rfl
      have r1 := hT15.cell 1 rfl
      have r2 := hT15.cell 2 rfl
      have r3 := hT15.cell 3 rfl
      have r4 := hT15.cell 4 rfl
      have m0 := hU15.cell 0 rfl
      have m1 := hU15.cell 1 rfl
      have m2 := hU15.cell 2 rfl
      have m3 := hU15.cell 3 rfl
      have m4 := hU15.cell 4 rfl
      have SF := Hh (law_sameFirst (m := xm) w15 hG15.holds HFA1.out HFA2.out HXE.out.2.1 HXE.out.2.2.1 HXE.out.2.2.2.1 HXE.out.2.2.2.2 HXB.out HSH.out.2.2.2.2)
      go_wp2_with fail
      refine SF.out.mono ?_
      rintro e w16 ⟨rfl, hb16⟩
      have hG16 := hG15.below_ hb16
      clear SF hb16 hG15 hT15 hU15 r0 r1 r2 r3 r4 m0 m1 m2 m3 m4
      go_wp2_with fail
      go_roundw
      case rel => exact ⟨i + 1, H13, by have := HI3.out; omega, by go_num, hG16, HLR.out.trans HL13.out⟩
      case measure => have := HI3.out; simp [intOf]; omega
    ·have hii : ¬ ((i : Int) < 3) := by omega
     have hid : decide ((i : Int) < 3) = false := decide_eq_false hii
     clear hi3
     go_wp2_with fail
     refine (AW.out _ hGr.below).mono ?_
     rintro e w9 ⟨rfl, hb9⟩
     go_wp2_with fail
     go_ret
     exact ⟨rfl, hGr.below.trans (hb9.mono hGr.below.size)⟩
end Go.Proofs.YtlebpackbfcfeaaDoor
