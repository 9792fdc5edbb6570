/- The walk of EnvelopeInputs. -/
import Derived.Test.YtdbhgngikglmcaaDoorL3
import Derived.OwnWalk
set_option linter.unusedVariables false
set_option linter.unusedSimpArgs false
namespace Go.Proofs.YtdbhgngikglmcaaDoor
open Go.RowKit

theorem made_zeros (n : Nat) : (madeCells (Value.int .u8 0).cells (n * 1)).toList = (List.replicate n (0 : UInt8)).map byteV := by
  apply List.ext_getElem?
  intro j
  simp [madeCells, Value.cells, List.getElem?_replicate]
  by_cases h : j < n
  · simp [h, byteV, Nat.mod_one]
  · simp [h]
/-- One of the five inputs that the law looks at. -/
structure Five (wr : World) (Hr : Snap) (R k : Nat) (ctx : ByteArray) (EA : Option Addr) (ec : Nat) (ex : List UInt8) (PA : Option Addr) (pc : Nat) (py : List (List UInt8)) : Prop where
  c0 : wr.cell? ⟨R, k * 3, none⟩ = some (.string ctx)
  c1 : wr.cell? ⟨R, k * 3 + 1, none⟩ = some (.slice EA ex.length ec)
  c2 : wr.cell? ⟨R, k * 3 + 2, none⟩ = some (.slice PA py.length pc)
  ctx_ : ctx.size ≤ 1048576
  ex_ : IsBytes Hr EA ec ex
  exl : ex.length ≤ 1048576
  py_ : IsRows Hr PA pc py
  pyl : py.length ≤ 1048576
  pyb : ∀ l ∈ py, l.length ≤ 1048576
theorem own_data {w wr : World} {H Hr : Snap} (hG : Grows w H wr Hr) {base : Nat} {g c : Nat} {l : List UInt8} (hO : OwnB wr base (.slice (some ⟨g, 0, none⟩) l.length c) l) (h0 : Hr g = none) (hw : w.heap.size ≤ g) :
    ∃ H', Grows w H wr H' ∧ Hr.le H' ∧ IsBytes H' (some ⟨g, 0, none⟩) c l := by
  obtain ⟨H', hl, hh, hf, _, hi⟩ := hO.snap hG.holds (fun q hq => by cases hq; exact h0)
  refine ⟨H', ⟨hG.below, hG.le.trans hl, hh, fun b o hb => ?_⟩, hl, hi⟩
  rcases hf b o hb with h4 | h4
  · exact hG.fresh b o h4
  · simp at h4; exact .inr (by omega)
theorem IsRows.nil (H : Snap) : IsRows H none 0 [] := ⟨by simp, by omega, fun h => by simp at h⟩

set_option maxRecDepth 100000 in
set_option maxHeartbeats 12800000 in
theorem law13_inputs {H : Snap} (hTab : Tabs H) {p u : Itm} {a b : Ad} (hp : IsItem H a.ba a.bc a.ia a.ic p) (hu : IsItem H b.ba b.bc b.ia b.ic u) {A : Option Addr} {c : Nat} {l : List Int} (hl : IsInts H A c l) (s : ByteArray) (hsm : s.size ≤ 9223372036854775807)
    {EA : Option Addr} {ec : Nat} {ext : List UInt8} (hext : IsBytes H EA ec ext) {PA : Option Addr} {pc : Nat} {pay : List (List UInt8)} (hpay : IsRows H PA pc pay) (n : Int) (w : World) (hH : Holds w H) :
    Calls Tryd.prog 3 #[.agg (hdrC p a u b), .slice A l.length c, .string s, .slice EA ext.length ec, .slice PA pay.length pc, .int .i64 n] w fun e w' => e = .returned (.bool true) ∧ Below w.heap.size w w' := by
  have hB := Blk.new w 28 (hdrC p a u b)
  have hG := (Grows.refl hH).alloc (.cells (hdrC p a u b) 28)
  have hem := hext.max
  have hel := hext.le
  have hpm := hpay.max
  have hpl := hpay.le
  have hexm : ext.length ≤ 9223372036854775807 := by omega
  have hpam : pay.length ≤ 9223372036854775807 := by omega
  clear hem hel hpm hpl
  have SH1 := Lib.hid (law13_short hpay _ hG.holds)
  go_enter Tryd.func3, Tryd.ntmps3
  go_wp2_with fail
  refine SH1.out.mono ?_
  rintro e w1 ⟨rfl, rfl⟩
  clear SH1
  generalize w.alloc (.cells (hdrC p a u b) 28) = w0 at hB hG ⊢
  cases hpb : (pay.all fun l => decide (l.length ≤ 600)) with
  | false =>
    have HG := hG
    clear hpb hG
    have AW := Lib.hid (law13_awake (hTab.mono HG.le) _ HG.holds)
    have hbb := HG.below
    clear HG
    go_wp2_with fail
    refine AW.out.mono ?_
    rintro e wz ⟨rfl, hbz⟩
    have hbq := hbb.trans (hbz.mono hbb.size)
    go_wp2_with fail
    go_ret
    exact ⟨rfl, hbq⟩
  | true =>
  have HPB := Lib.hid hpb
  clear hpb
  obtain ⟨H2, hG2, hl2, hr2⟩ := rows_snap hG 23 [.slice EA ext.length ec] [ext] (by simp) (fun j hj => by
    have : j = 0 := by simpa using hj
    subst this
    exact ⟨EA, ec, rfl, hext⟩)
  have SH2 := Lib.hid (law13_short hr2 _ hG2.holds)
  have hB2 := hB.alloc (.cells [Value.slice EA ext.length ec].toArray 23)
  clear hr2 hl2 hB hG
  go_wp2_with fail
  refine SH2.out.mono ?_
  rintro e w2 ⟨rfl, rfl⟩
  clear SH2
  generalize w0.alloc (.cells [Value.slice EA ext.length ec].toArray 23) = w9 at hB2 hG2 ⊢
  cases heb : ([ext].all fun l => decide (l.length ≤ 600)) with
  | false =>
    have HG := hG2
    clear heb hG2
    have AW := Lib.hid (law13_awake (hTab.mono HG.le) _ HG.holds)
    have hbb := HG.below
    clear HG
    go_wp2_with fail
    refine AW.out.mono ?_
    rintro e wz ⟨rfl, hbz⟩
    have hbq := hbb.trans (hbz.mono hbb.size)
    go_wp2_with fail
    go_ret
    exact ⟨rfl, hbq⟩
  | true =>
  have HEB := Lib.hid heb
  clear heb
  by_cases h10 : 10 < pay.length
  · have h10z : (10 : Int) < (pay.length : Int) := by omega
    have HG := hG2
    clear hG2
    have AW := Lib.hid (law13_awake (hTab.mono HG.le) _ HG.holds)
    have hbb := HG.below
    clear HG
    go_wp2_with fail
    refine AW.out.mono ?_
    rintro e wz ⟨rfl, hbz⟩
    have hbq := hbb.trans (hbz.mono hbb.size)
    go_wp2_with fail
    go_ret
    exact ⟨rfl, hbq⟩
  by_cases h300 : 300 < s.size
  · have h10z : ¬ (10 : Int) < (pay.length : Int) := by omega
    have h300z : (300 : Int) < (s.size : Int) := by omega
    have HG := hG2
    clear hG2
    have AW := Lib.hid (law13_awake (hTab.mono HG.le) _ HG.holds)
    have hbb := HG.below
    clear HG
    go_wp2_with fail
    refine AW.out.mono ?_
    rintro e wz ⟨rfl, hbz⟩
    have hbq := hbb.trans (hbz.mono hbb.size)
    go_wp2_with fail
    go_ret
    exact ⟨rfl, hbq⟩
  have h10z : ¬ (10 : Int) < (pay.length : Int) := by omega
  have h300z : ¬ (300 : Int) < (s.size : Int) := by omega
  have HSZ := Lib.hid (And.intro h10 h300)
  clear h10 h300
  have k0 := hB2.cell 0 rfl
  have k1 := hB2.cell 1 rfl
  have k2 := hB2.cell 2 rfl
  have k3 := hB2.cell 3 rfl
  have k4 := hB2.cell 4 rfl
  have k5 := hB2.cell 5 rfl
  have k6 := hB2.cell 6 rfl
  have k7 := hB2.cell 7 rfl
  have HDS := Lib.hid (law13_headers (hTab.mono hG2.le) (hp.mono hG2.le) (hu.mono hG2.le) (hl.mono hG2.le) _ hG2.holds)
  clear hB2
  go_wp2_with fail
  refine HDS.out.mono ?_
  rintro e w3 ⟨p', u', a', b', H3, rfl, hG3, hp', hu'⟩
  have hD := Blk.new w3 28 (hdrC p' a' u' b')
  have hG4 := (hG2.trans hG3).alloc (.cells (hdrC p' a' u' b') 28)
  have MD := Lib.hid (mk_Mod n 40 (by omega) (by omega) (w3.alloc (.cells (hdrC p' a' u' b') 28)))
  have hmd := modP_bnd n 40 (by omega)
  obtain ⟨r, hr, hr40⟩ : ∃ r : Nat, modP n 40 = (r : Int) ∧ r < 40 := ⟨(modP n 40).toNat, by omega, by omega⟩
  rw [hr] at MD
  clear HDS hG2 hG3 k0 k1 k2 k3 k4 k5 k6 k7 hmd hr
  go_wp2_with fail
  refine MD.out.mono ?_
  rintro e w4' ⟨rfl, rfl⟩
  clear MD
  generalize w3.alloc (.cells (hdrC p' a' u' b') 28) = w4 at hD hG4 ⊢
  have HR40 := Lib.hid hr40
  have hw1 : IntKind.i64.wrap (4066 + (r : Int)) = 4066 + (r : Int) := IntWalk.i64_in _ (by omega)
  clear hr40
  go_wp2_with (at_make; refine stop_in ?_)
  unfold Stopped
  obtain ⟨i0, hi0, hz0, hz1, hz2⟩ := info_parts info_u8
  refine wpList_make_full _ rfl _ _ 23 rfl w4.heap.size 5 i0 _ 1 Tryd.underlying23 hi0 hz0 hz1 _ _ _ _ (4066 + r) rfl rfl (by omega) (by omega) (by rw [hz2]; have := HR40.out; omega) (by have := HR40.out; simp only [maxLen]; omega) (Nat.le_refl _) fun wq hO hgq => ?_
  clear i0 hi0 hz0 hz1 hz2
  obtain ⟨lg, hlg⟩ : ∃ lg, List.replicate (4066 + r) (0 : UInt8) = lg := ⟨_, rfl⟩
  have hlgl : lg.length = 4066 + r := by rw [← hlg]; simp
  have hO2 : OwnB wq w4.heap.size (.slice (some ⟨w4.heap.size, 0, none⟩) lg.length lg.length) lg := by
    unfold OwnB
    rw [hlgl, ← hlg, ← made_zeros]
    exact hO
  have hbq := grown_none hgq
  have hD4 := hD.below hbq
  have hDl := hD.lt
  obtain ⟨H5, hG5, hl5, hlb⟩ := own_data (hG4.below_ hbq) hO2 (hG4.hidden (Nat.le_refl _)) hG4.size
  rw [← hlgl]
  obtain ⟨H7, hG7, hl7, hr7⟩ := rows_snap hG5 23 [.slice (some ⟨w4.heap.size, 0, none⟩) lg.length lg.length, .slice EA ext.length ec] [lg, ext] (by simp) (fun j hj => by
    match j, hj with
    | 0, _ => exact ⟨_, _, rfl, hlb⟩
    | 1, _ => exact ⟨_, _, rfl, hext.mono hG5.le⟩)
  have hG8 := hG7.alloc (.cells #[.string s, .slice EA ext.length ec, .slice PA pay.length pc, .string ⟨#[69, 110, 99, 114, 121, 112, 116, 48]⟩, .slice EA ext.length ec, .slice none 0 0, .string ⟨#[97]⟩, .slice (some ⟨w4.heap.size, 0, none⟩) lg.length lg.length, .slice none 0 0, .string ⟨#[255]⟩, .slice none 0 0, .slice none 0 0, .string ⟨#[98]⟩, .slice none 0 0, .slice (some ⟨wq.heap.size, 0, none⟩) 2 2] 35)
  have hD8 := (hD4.alloc (.cells [.slice (some ⟨w4.heap.size, 0, none⟩) lg.length lg.length, .slice EA ext.length ec].toArray 23)).alloc (.cells #[.string s, .slice EA ext.length ec, .slice PA pay.length pc, .string ⟨#[69, 110, 99, 114, 121, 112, 116, 48]⟩, .slice EA ext.length ec, .slice none 0 0, .string ⟨#[97]⟩, .slice (some ⟨w4.heap.size, 0, none⟩) lg.length lg.length, .slice none 0 0, .string ⟨#[255]⟩, .slice none 0 0, .slice none 0 0, .string ⟨#[98]⟩, .slice none 0 0, .slice (some ⟨wq.heap.size, 0, none⟩) 2 2] 35)
  have hR := Blk.new (wq.alloc (.cells [.slice (some ⟨w4.heap.size, 0, none⟩) lg.length lg.length, .slice EA ext.length ec].toArray 23)) 35 #[.string s, .slice EA ext.length ec, .slice PA pay.length pc, .string ⟨#[69, 110, 99, 114, 121, 112, 116, 48]⟩, .slice EA ext.length ec, .slice none 0 0, .string ⟨#[97]⟩, .slice (some ⟨w4.heap.size, 0, none⟩) lg.length lg.length, .slice none 0 0, .string ⟨#[255]⟩, .slice none 0 0, .slice none 0 0, .string ⟨#[98]⟩, .slice none 0 0, .slice (some ⟨wq.heap.size, 0, none⟩) 2 2]
  simp only [size_alloc] at hR
  have hp7 := hp'.mono (hl5.trans hl7)
  have hu7 := hu'.mono (hl5.trans hl7)
  have hlb7 := hlb.mono hl7
  have HLG := Lib.hid hlgl
  clear hO hO2 hgq hlg hD hD4 hG4 hG5 hbq hlb hlgl hp hu hl hp' hu' hw1
  go_wp2_with fail
  generalize (wq.alloc (.cells [.slice (some ⟨w4.heap.size, 0, none⟩) lg.length lg.length, .slice EA ext.length ec].toArray 23)).alloc (.cells #[.string s, .slice EA ext.length ec, .slice PA pay.length pc, .string ⟨#[69, 110, 99, 114, 121, 112, 116, 48]⟩, .slice EA ext.length ec, .slice none 0 0, .string ⟨#[97]⟩, .slice (some ⟨w4.heap.size, 0, none⟩) lg.length lg.length, .slice none 0 0, .string ⟨#[255]⟩, .slice none 0 0, .slice none 0 0, .string ⟨#[98]⟩, .slice none 0 0, .slice (some ⟨wq.heap.size, 0, none⟩) 2 2] 35) = w8 at hG8 hD8 hR ⊢
  have hsl := HSZ.out
  have hpb : ∀ l ∈ pay, l.length ≤ 600 := fun l hl => by have := List.all_eq_true.1 HPB.out l hl; simpa using this
  have heb : ext.length ≤ 600 := by have := HEB.out; simpa using this
  have five : ∀ k, k < 5 → ∃ ctx A1 c1 ex A2 c2 py, Five w8 H7 (wq.heap.size + 1) k ctx A1 c1 ex A2 c2 py := fun k hk => by
    have h1 := hext.mono hG7.le
    have h2 := hpay.mono hG7.le
    have hlg := HLG.out
    have hr4 := HR40.out
    rcases (by omega : k = 0 ∨ k = 1 ∨ k = 2 ∨ k = 3 ∨ k = 4) with rfl | rfl | rfl | rfl | rfl
    · exact ⟨s, EA, ec, ext, PA, pc, pay, hR.cell 0 rfl, hR.cell 1 rfl, hR.cell 2 rfl, by omega, h1, by omega, h2, by omega, fun l hl => by have := hpb l hl; omega⟩
    · exact ⟨_, EA, ec, ext, none, 0, [], hR.cell 3 rfl, hR.cell 4 rfl, hR.cell 5 rfl, by show (8 : Nat) ≤ _; omega, h1, by omega, IsRows.nil _, by simp, by simp⟩
    · exact ⟨_, _, _, lg, none, 0, [], hR.cell 6 rfl, hR.cell 7 rfl, hR.cell 8 rfl, by show (1 : Nat) ≤ _; omega, hlb7, by omega, IsRows.nil _, by simp, by simp⟩
    · exact ⟨_, none, 0, [], none, 0, [], hR.cell 9 rfl, hR.cell 10 rfl, hR.cell 11 rfl, by show (1 : Nat) ≤ _; omega, IsBytes.nil _, by simp, IsRows.nil _, by simp, by simp⟩
    · exact ⟨_, none, 0, [], _, 2, [lg, ext], hR.cell 12 rfl, hR.cell 13 rfl, hR.cell 14 rfl, by show (1 : Nat) ≤ _; omega, IsBytes.nil _, by simp, hr7, by simp, fun l hl => by simp at hl; rcases hl with rfl | rfl <;> omega⟩
  have FV := Lib.hid five
  have hTab7 := hTab.mono hG7.le
  clear five hsl hpb heb hR hlb7 hr7 hG7 hext hpay
  go_loopw [63] (fun v63 wr => ∃ k : Nat, k ≤ 5 ∧ v63 = .int .i64 (k : Int) ∧ Below w8.heap.size w8 wr) (fun v63 _ => 5 - (intOf v63).toNat)
  case atStart => exact ⟨0, by omega, rfl, Below.refl _ _⟩
  case round =>
    obtain ⟨k, hk, rfl, hbr⟩ := hrel
    have HG := hG8.trans (Grows.of_below hG8.holds hbr)
    by_cases hlt : k < 5
    · obtain ⟨ctx, A1, c1, ex, A2, c2, py, f⟩ := FV.out k hlt
      have q0 := cell_below f.c0 hbr
      have q1 := cell_below f.c1 hbr
      have q2 := cell_below f.c2 hbr
      have hltI : (k : Int) < 5 := by omega
      have hki : (k : Int) + 1 ≤ 9223372036854775807 := by omega
      have hD1 := (hD8.below hbr).alloc (.cells #[.string ctx, .slice A1 ex.length c1, .slice A2 py.length c2] 35)
      have hS1 := Blk.new wr 35 #[.string ctx, .slice A1 ex.length c1, .slice A2 py.length c2]
      have HG1 := HG.alloc (.cells #[.string ctx, .slice A1 ex.length c1, .slice A2 py.length c2] 35)
      have F := Lib.hid f
      have hbx := hbr.alloc hbr.size (.cells #[.string ctx, .slice A1 ex.length c1, .slice A2 py.length c2] 35)
      have k0 := hD1.cell 0 rfl
      have k1 := hD1.cell 1 rfl
      have k2 := hD1.cell 2 rfl
      have k3 := hD1.cell 3 rfl
      have k4 := hD1.cell 4 rfl
      have k5 := hD1.cell 5 rfl
      have k6 := hD1.cell 6 rfl
      have k7 := hD1.cell 7 rfl
      go_upto_region 8 with fail
      generalize wr.alloc (.cells #[.string ctx, .slice A1 ex.length c1, .slice A2 py.length c2] 35) = wx at hD1 hS1 HG1 hbx k0 k1 k2 k3 k4 k5 k6 k7 ⊢
      have IN := Lib.hid (envelope_Input hTab7 hp7 hu7 ctx F.out.ctx_ F.out.ex_ F.out.exl F.out.py_ F.out.pyl F.out.pyb wx HG1.holds)
      have t0 := hS1.cell 0 rfl
      have t1 := hS1.cell 1 rfl
      have t2 := hS1.cell 2 rfl
      clear f q0 q1 q2
      go_wp2_with fail
      refine IN.out.mono ?_
      rintro e w10 ⟨r1, l1, rfl, hf1, hl1⟩
      obtain ⟨B1, d1, rfl, _⟩ := hf1.own.form
      have hD2 := hD1.below hf1.2
      have hS2 := hS1.below hf1.2
      have HG2 := HG1.below_ hf1.2
      have hs1 := hf1.own.src
      have IN2 := Lib.hid (ref13_Input hTab7 hp7 hu7 ctx F.out.ctx_ F.out.ex_ F.out.exl F.out.py_ F.out.pyl F.out.pyb w10 HG2.holds)
      clear IN hD1 hS1 HG1 k0 k1 k2 k3 k4 k5 k6 k7 t0 t1 t2
      have j0 := hD2.cell 0 rfl
      have j1 := hD2.cell 1 rfl
      have j2 := hD2.cell 2 rfl
      have j3 := hD2.cell 3 rfl
      have j4 := hD2.cell 4 rfl
      have j5 := hD2.cell 5 rfl
      have j6 := hD2.cell 6 rfl
      have j7 := hD2.cell 7 rfl
      have t0 := hS2.cell 0 rfl
      have t1 := hS2.cell 1 rfl
      have t2 := hS2.cell 2 rfl
      obtain ⟨E, hE⟩ : ∃ E, inputE ctx.data.toList p' u' ex py = E := ⟨_, rfl⟩
      rw [hE] at hl1 ⊢
      have HE := Lib.hid hE
      have HL1 := Lib.hid hl1
      clear hE hl1
      go_wp2_with fail
      refine IN2.out.mono ?_
      rintro e w11 ⟨r2, l2, rfl, hf2, hl2⟩
      rw [HE.out] at hl2 ⊢
      obtain ⟨B2, d2, rfl, _⟩ := hf2.own.form
      have hll : l2 = l1 := hl2.trans HL1.out.symm
      subst hll
      have HG3 := HG2.below_ hf2.2
      have hs2 := conv_bytes (hs1.below hf2.2) l2.length d1 rfl
      have hs3 := conv_bytes hf2.own.src l2.length d2 rfl
      have hb9 := hbx.trans (hf1.2.mono hbx.size)
      have hb8 := hb9.trans (hf2.2.mono hb9.size)
      clear IN2 hD2 hS2 HG2 hf2 hf1 hbx hb9 j0 j1 j2 j3 j4 j5 j6 j7 t0 t1 t2 hl2 hs1
      go_wp2_with fail
      go_roundw
      case rel => exact ⟨k + 1, by omega, by go_num, hb8⟩
      case measure => simp [intOf]; omega
    · have hltI : ¬ (k : Int) < 5 := by omega
      have AW := Lib.hid (law13_awake (hTab.mono HG.le) _ HG.holds)
      have hbb := HG.below
      clear HG
      go_wp2_with fail
      refine AW.out.mono ?_
      rintro e wz ⟨rfl, hbz⟩
      have hbq := hbb.trans (hbz.mono hbb.size)
      go_wp2_with fail
      go_ret
      exact ⟨rfl, hbq⟩
end Go.Proofs.YtdbhgngikglmcaaDoor
