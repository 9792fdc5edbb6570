/- Walks: header.Protected. Walks: envelope.Input. What is authenticated: when it is valid, and that it is one to one: plain mathematics. Headers with an algorithm alone: plain mathematics. -/
import Derived.Test.YtdbhgngikglmcaaDoorWheader3
import Derived.Test.YtdbhgngikglmcaaDoorJutf
import Derived.Test.YtdbhgngikglmcaaDoorJpure
set_option linter.unusedVariables false
set_option linter.unusedSimpArgs false
namespace Go.Proofs.YtdbhgngikglmcaaDoor
open Go.RowKit

/-- What header.Protected answers. -/
def ProtSaid (w : World) (p u : Itm) (e : Ending) (w' : World) : Prop :=
  (validH p u = false ∧ e = .returned (.tuple #[.slice none 0 0, .int .i64 1]) ∧ Below w.heap.size w w') ∨
  (validH p u = true ∧ ∃ r, e = .returned (.tuple #[r, .int .i64 0]) ∧ Fresh w (protB p) r w')
set_option maxRecDepth 100000 in
set_option maxHeartbeats 1600000 in
theorem header_Protected {H : Snap} (hTab : Tabs H) {p u : Itm} {a b : Ad} (hp : IsItem H a.ba a.bc a.ia a.ic p) (hu : IsItem H b.ba b.bc b.ia b.ic u) (w : World) (hH : Holds w H) :
    Calls Tryd.prog 18 #[.agg (hdrC p a u b)] w (ProtSaid w p u) := by
  have hB := Blk.new w 28 (hdrC p a u b)
  have hb0 := below_box w (.cells (hdrC p a u b) 28)
  have hH0 := hH.alloc (.cells (hdrC p a u b) 28)
  have V := Lib.hid (header_Valid hTab hp hu _ hH0)
  cases hv : validH p u with
  | false =>
    rw [hv] at V
    have HV := Lib.hid hv
    clear hv
    go_enter Tryd.func18, Tryd.ntmps18
    go_wp2_with fail
    refine V.out.mono ?_
    rintro e w1 ⟨rfl, hb1⟩
    have hbz := hb0.trans (hb1.mono hb0.size)
    go_wp2_with fail
    go_ret2
    exact .inl ⟨HV.out, rfl, hbz⟩
  | true =>
    rw [hv] at V
    have HV := Lib.hid hv
    have hvp := (validH_valid hv).1
    have hil := (validP_items hvp).2.1
    clear hv
    go_enter Tryd.func18, Tryd.ntmps18
    go_wp2_with fail
    refine V.out.mono ?_
    rintro e w1 ⟨rfl, hb1⟩
    have hB1 := hB.below hb1
    have hbz := hb0.trans (hb1.mono hb0.size)
    have c0 := hB1.cell 0 rfl
    have c1 := hB1.cell 1 rfl
    have c2 := hB1.cell 2 rfl
    have c3 := hB1.cell 3 rfl
    by_cases h0 : p.items.length = 0
    · have E : Hid (protB p = []) := by rw [Hid, protB, if_pos h0]
      have k0 : ((p.items.length : Int) == 0) = true := by simp; simpa using h0
      clear h0
      go_wp2_with fail
      go_ret2
      exact .inr ⟨HV.out, _, rfl, by rw [E.out]; exact ⟨OwnB.nil _ _, hbz⟩⟩
    · have E : Hid (protB p = encB p) := by rw [Hid, protB, if_neg h0]
      have k0 : ((p.items.length : Int) == 0) = false := by rw [beq_eq_false_iff_ne]; omega
      have EN := Lib.hid (cbor_Encode hTab hp.arg w1 (hH.below hbz (Nat.le_refl _)))
      have HVP := Lib.hid hvp
      clear h0 hvp
      go_wp2_with fail
      refine EN.out.mono ?_
      rintro e w2 (⟨hf, _⟩ | ⟨_, r, rfl, hfr⟩)
      · rw [HVP.out] at hf; cases hf
      · have R : Hid (Fresh w (protB p) r w2) := by
          rw [Hid, E.out]
          exact ⟨hfr.own.more hbz.size, hbz.trans (hfr.2.mono hbz.size)⟩
        clear hfr
        go_wp2_with fail
        go_ret2
        exact .inr ⟨HV.out, _, rfl, R.out⟩
end Go.Proofs.YtdbhgngikglmcaaDoor
namespace Go.Proofs.YtdbhgngikglmcaaDoor
open Go.RowKit

/-- A slice of byte strings. -/
structure IsRows (H : Snap) (A : Option Addr) (c : Nat) (ls : List (List UInt8)) : Prop where
  le : ls.length ≤ c
  max : c ≤ 9223372036854775807
  rows : 0 < ls.length → ∃ b off, A = some ⟨b, off, none⟩ ∧ ∀ j (hj : j < ls.length), ∃ Aj cj, H.cell? ⟨b, off + j, none⟩ = some (.slice Aj ls[j].length cj) ∧ IsBytes H Aj cj ls[j]
theorem IsRows.mono {H K : Snap} {A : Option Addr} {c : Nat} {ls : List (List UInt8)} (h : IsRows H A c ls) (hl : H.le K) : IsRows K A c ls :=
  ⟨h.le, h.max, fun h0 => by
    obtain ⟨b, off, e, hr⟩ := h.rows h0
    exact ⟨b, off, e, fun j hj => by
      obtain ⟨Aj, cj, h1, h2⟩ := hr j hj
      exact ⟨Aj, cj, hl.cell h1, h2.mono hl⟩⟩⟩

/-- What is authenticated, as an item. -/
abbrev bytesItm (l : List UInt8) : Itm := .mk 2 0 l []
def inputI (ctx : List UInt8) (p : Itm) (ext : List UInt8) (pay : List (List UInt8)) : Itm := .mk 4 0 [] ([.mk 3 0 ctx [], bytesItm (protB p), bytesItm ext] ++ pay.map bytesItm)
/-- The code of Input, and its bytes. -/
def inputE (ctx : List UInt8) (p u : Itm) (ext : List UInt8) (pay : List (List UInt8)) : Int :=
  if validH p u = false then 1 else if Lib.validD ctx = false then 5 else if validP (inputI ctx p ext pay) = false then 8 else 0
def InputSaid (w : World) (ctx : List UInt8) (p u : Itm) (ext : List UInt8) (pay : List (List UInt8)) (e : Ending) (w' : World) : Prop :=
  ∃ r l, e = .returned (.tuple #[r, .int .i64 (inputE ctx p u ext pay)]) ∧ Fresh w l r w' ∧ l = if inputE ctx p u ext pay = 0 then encB (inputI ctx p ext pay) else []

theorem OwnI.lit {w : World} {H : Snap} {l : List Itm} {cs : List Value} (h : ItemsC H cs l) (base : Nat) (hb : base ≤ w.heap.size) (hm : l.length ≤ 4096) :
    OwnI (w.alloc (.cells cs.toArray 26)) base (.slice (some ⟨w.heap.size, 0, none⟩) l.length l.length) H l := by
  refine ⟨cs, h, h.len, .inr ⟨w.heap.size, l.length, cs.toArray, rfl, hb, heap_alloc_new w _, Nat.le_refl _, by simp only [maxLen]; omega, ?_, ?_⟩⟩
  · simpa using h.len
  · rw [← h.len]; simp

set_option maxRecDepth 100000 in
set_option maxHeartbeats 6400000 in
theorem envelope_Input {H : Snap} (hTab : Tabs H) {p u : Itm} {a b : Ad} (hp : IsItem H a.ba a.bc a.ia a.ic p) (hu : IsItem H b.ba b.bc b.ia b.ic u) (s : ByteArray) (hs : s.size ≤ 1048576)
    {EA : Option Addr} {ec : Nat} {ext : List UInt8} (hext : IsBytes H EA ec ext) (hel : ext.length ≤ 1048576) {PA : Option Addr} {pc : Nat} {pay : List (List UInt8)} (hpay : IsRows H PA pc pay) (hpl : pay.length ≤ 1048576) (hpb : ∀ l ∈ pay, l.length ≤ 1048576) (w : World) (hH : Holds w H) :
    Calls Tryd.prog 9 #[.string s, .agg (hdrC p a u b), .slice EA ext.length ec, .slice PA pay.length pc] w (InputSaid w s.data.toList p u ext pay) := by
  have hb0 := below_box w (.cells (hdrC p a u b) 28)
  have hG0 := (Grows.refl hH).alloc (.cells (hdrC p a u b) 28)
  have P := Lib.hid (header_Protected hTab hp hu _ hG0.holds)
  go_enter Tryd.func9, Tryd.ntmps9
  go_wp2_with fail
  refine P.out.mono ?_
  rintro e w1 (⟨hv, rfl, hb1⟩ | ⟨hv, r, rfl, hf⟩)
  · have E : Hid (inputE s.data.toList p u ext pay = 1) := by rw [Hid, inputE, if_pos hv]
    have hbz := hb0.trans (hb1.mono hb0.size)
    clear hv
    go_wp2_with fail
    go_ret2
    exact ⟨_, [], by rw [E.out]; rfl, ⟨OwnB.nil _ _, hbz⟩, by rw [E.out]; rfl⟩
  · obtain ⟨RA, rc, rfl, _⟩ := hf.own.form
    have U := Lib.hid (utf8_ValidString hTab w1 (hG0.holds.below hf.2 (Nat.le_refl _)) s (by omega))
    cases hc : Lib.validD s.data.toList with
    | false =>
      have E : Hid (inputE s.data.toList p u ext pay = 5) := by rw [Hid, inputE, if_neg (by simp [hv]), if_pos hc]
      rw [hc] at U
      clear hv hc
      go_wp2_with fail
      refine U.out.mono ?_
      rintro e w2 ⟨rfl, hb2⟩
      have hbz := (hb0.trans (hf.2.mono hb0.size)).trans (hb2.mono (Nat.le_trans hb0.size hf.2.size))
      go_wp2_with fail
      go_ret2
      exact ⟨_, [], by rw [E.out]; rfl, ⟨OwnB.nil _ _, hbz⟩, by rw [E.out]; rfl⟩
    | true =>
      rw [hc] at U
      have HVC := Lib.hid (And.intro hv hc)
      clear hv hc
      go_wp2_with fail
      refine U.out.mono ?_
      rintro e w2 ⟨rfl, hb2⟩
      have hpb4 : (protB p).length ≤ 1099511627776 := by
        have := (validP_spec (validH_valid HVC.out.1).1).2.2
        unfold protB
        split
        · simp
        · omega
      have hG2 := (hG0.below_ hf.2).below_ hb2
      have hsr := (hf.own.src).below hb2
      obtain ⟨x3, hx3⟩ : ∃ x, Itm.mk 3 0 s.data.toList [] = x := ⟨_, rfl⟩
      obtain ⟨x4, hx4⟩ : ∃ x, Itm.mk 2 0 (protB p) [] = x := ⟨_, rfl⟩
      obtain ⟨x5, hx5⟩ : ∃ x, Itm.mk 2 0 ext [] = x := ⟨_, rfl⟩
      have T := Lib.hid (cbor_Text s (by omega) w2 hG2.holds)
      rw [hx3] at T
      go_wp2_with fail
      refine T.out.mono ?_
      rintro e w3 ⟨v3, rfl, ta, tb, tc, td, H3, rfl, hG3, hi3⟩
      have B1 := Lib.hid (cbor_Bytes (c := rc) (A := RA) (l := protB p) rfl hpb4 w3 (hsr.below hG3.below) hG3.holds)
      rw [hx4] at B1
      clear T
      go_wp2_with fail
      refine B1.out.mono ?_
      rintro e w4 ⟨v4, rfl, pa', pb', pc', pd', H4, rfl, hG4, hi4⟩
      have B2 := Lib.hid (cbor_Bytes (c := ec) (A := EA) (l := ext) rfl (by omega) w4 (Src.of_row (hext.row.mono (hG3.le.trans hG4.le)) hG4.holds) hG4.holds)
      rw [hx5] at B2
      clear B1
      go_wp2_with fail
      refine B2.out.mono ?_
      rintro e w5 ⟨v5, rfl, ea', eb', ec', ed', H5, rfl, hG5, hi5⟩
      have hG := ((hG2.trans hG3).trans hG4).trans hG5
      have hl0 : ItemsC H5 (itemC x3 ta tb tc td ++ (itemC x4 pa' pb' pc' pd' ++ itemC x5 ea' eb' ec' ed')) [x3, x4, x5] :=
        (ItemsC.one (hi3.mono (hG4.le.trans hG5.le))).app ((ItemsC.one (hi4.mono hG5.le)).app (ItemsC.one hi5))
      have hO := OwnI.lit (w := w5) hl0 (w.heap.size + 1) (by have := hf.2.size; have := hb2.size; have := hG3.size; have := hG4.size; have := hG5.size; simp at *; omega) (by simp)
      have hGl := hG.alloc (.cells (itemC x3 ta tb tc td ++ (itemC x4 pa' pb' pc' pd' ++ itemC x5 ea' eb' ec' ed')).toArray 26)
      have hnv : H5 w5.heap.size = none := hG5.holds.none_of_ge (Nat.le_refl _)
      clear hG2 hG3 hG4 hG5 hi3 hi4 hi5 hG B2 hsr hf hb2 hl0
      go_upto_region 8 with fail
      go_loopw [12, 38] (fun v12 vi wr => ∃ (k : Nat) (Hr : Snap) (VA : Option Addr) (vc : Nat), k ≤ pay.length ∧ vi = .int .i64 k ∧ v12 = .slice VA (3 + k) vc ∧ Grows w H wr Hr ∧
        OwnI wr (w.heap.size + 1) (.slice VA (3 + k) vc) Hr ([x3, x4, x5] ++ (pay.take k).map bytesItm) ∧ (∀ g, (Value.slice VA (3 + k) vc).ownBlock = some g → Hr g = none)) (fun _ vi _ => pay.length - (intOf vi).toNat)
      case atStart => exact ⟨0, H5, _, _, Nat.zero_le _, rfl, rfl, hGl, hO, by intro g hg; simp [Value.ownBlock] at hg; subst hg; exact hnv⟩
      case round =>
        obtain ⟨k, Hr, VA, vc, hk, rfl, rfl, hGr, hOr, hnr⟩ := hrel
        by_cases hlt : k < pay.length
        · obtain ⟨rb, ro, hra, hrow⟩ := hpay.rows (by omega)
          obtain ⟨Aj, cj, q0, hbj⟩ := hrow k hlt
          subst hra
          have p0 := (hGr.holds.mono hGr.le).cell q0
          have hlj := hpb pay[k] (List.getElem_mem hlt)
          obtain ⟨x6, hx6⟩ : ∃ x, Itm.mk 2 0 pay[k] [] = x := ⟨_, rfl⟩
          have B := Lib.hid (cbor_Bytes (c := cj) (A := Aj) (l := pay[k]) rfl (by omega) wr (Src.of_row (hbj.row.mono hGr.le) hGr.holds) hGr.holds)
          rw [hx6] at B
          clear q0 hrow
          go_wp2_with fail
          refine B.out.mono ?_
          rintro e w6 ⟨v6, rfl, ja, jb, jc, jd, H6, rfl, hG6, hi6⟩
          have hO6 := ((hOr.below hG6.below).mono hG6.le).alloc (.cells (itemC x6 ja jb jc jd).toArray 26)
          have hG7 := (hGr.trans hG6).alloc (.cells (itemC x6 ja jb jc jd).toArray 26)
          have hn6 : ∀ g, (Value.slice VA (3 + k) vc).ownBlock = some g → H6 g = none := fun g hg => hG6.none (hnr g hg) (hOr.lt g hg).2
          clear p0 B
          go_wp2_with (at_builtin; refine stop_in ?_)
          unfold Stopped
          refine wpList_app_items rfl (.tmp 42) (.tmp 45) rfl (w.heap.size + 1) (.slice VA (3 + k) vc) H6 _ rfl hO6 _ 1 _ (itemC x6 ja jb jc jd) [x6] rfl rfl (ItemsC.one hi6) (Src.new _ _ _ _ rfl _ rfl) (by simp; omega) (by have := hG7.size; have := hG6.size; have := hGr.size; simp at *; omega) fun v' w7 hO7 hg7 hat7 => ?_
          obtain ⟨VA', vc', rfl, _⟩ := hO7.form
          have hG8 := hG7.grownRow hn6 (fun g hg => by have := (hO6.lt g hg).1; omega) hg7
          have hn7 : ∀ g, (Value.slice VA' ([x3, x4, x5] ++ (pay.take k).map bytesItm ++ [x6]).length vc').ownBlock = some g → H6 g = none := fun g hg => by
            rcases hat7 with h | ⟨g', h1, h2⟩
            · exact hn6 g (by rw [← h, hg])
            · rw [hg] at h1
              injection h1 with h1
              subst h1
              exact hG7.hidden h2
          have hll : ([x3, x4, x5] ++ (pay.take k).map bytesItm ++ [x6]) = [x3, x4, x5] ++ (pay.take (k + 1)).map bytesItm := by
            rw [List.take_succ_eq_append_getElem hlt, List.map_append, ← hx6]
            simp
          have hlen : ([x3, x4, x5] ++ (pay.take (k + 1)).map bytesItm).length = 3 + (k + 1) := by simp; omega
          rw [hll, hlen] at hO7 hn7
          rw [hll, hlen]
          have hk63 : (k : Int) + 1 ≤ 9223372036854775807 := by omega
          clear hO6 hg7 hat7 hn6 hG7 hOr hGr hG6 hi6 hbj
          go_wp2_with fail
          go_roundw
          case rel => exact ⟨k + 1, H6, VA', vc', by omega, by go_num, rfl, hG8, hO7, hn7⟩
          case measure => simp [intOf]; omega
        · have hkl : k = pay.length := by omega
          subst hkl
          rw [List.take_length] at hOr
          have hI : Hid (inputI s.data.toList p ext pay = .mk 4 0 [] ([x3, x4, x5] ++ pay.map bytesItm)) := by rw [Hid, inputI, ← hx3, ← hx4, ← hx5]
          have hmod : ModestL ([x3, x4, x5] ++ pay.map bytesItm) := by
            rw [← hx3, ← hx4, ← hx5]
            refine ModestL.of fun x hx => ?_
            simp only [List.cons_append, List.nil_append, List.mem_cons, List.mem_map] at hx
            rcases hx with rfl | rfl | rfl | ⟨l, hl, rfl⟩ <;> rw [Modest, ModestL] <;> refine ⟨?_, by simp, trivial⟩
            · simpa using (by omega : s.size ≤ 1099511627776)
            · exact hpb4
            · omega
            · have := hpb l hl
              omega
          obtain ⟨L, hL⟩ : ∃ L, [x3, x4, x5] ++ pay.map bytesItm = L := ⟨_, rfl⟩
          have hLn : L.length = 3 + pay.length := by rw [← hL]; simp; omega
          rw [hL] at hOr hmod hI
          obtain ⟨cs, hcs, hrow⟩ := hOr
          obtain ⟨x7, hx7⟩ : ∃ x, Itm.mk 4 0 [] L = x := ⟨_, rfl⟩
          have AR := Lib.hid (cbor_Array L VA (3 + pay.length) vc wr cs (Src.of_own hrow) hcs hLn.symm (by omega) hmod hGr.holds)
          rw [hx7] at AR hI
          clear hL hmod hrow hcs hx3 hx4 hx5 hO
          go_wp2_with fail
          refine AR.out.mono ?_
          rintro e w8 ⟨v8, rfl, xa, xb, xc, xd, H8, rfl, hG8, hi8⟩
          have hGz := hGr.trans hG8
          have EN := Lib.hid (cbor_Encode (hTab.mono hGz.le) hi8.arg w8 hGz.holds)
          clear AR hG8 hGr
          go_wp2_with fail
          refine EN.out.mono ?_
          rintro e w9 (⟨hv, rfl, hb9⟩ | ⟨hv, r, rfl, hfr⟩)
          · have E : Hid (inputE s.data.toList p u ext pay = 8) := by rw [Hid, inputE, if_neg (by simp [HVC.out.1]), if_neg (by simp [HVC.out.2]), hI.out, if_pos hv]
            have hbz := hGz.below.trans (hb9.mono hGz.size)
            clear hv
            go_wp2_with fail
            go_ret2
            exact ⟨_, [], by rw [E.out]; rfl, ⟨OwnB.nil _ _, hbz⟩, by rw [E.out]; rfl⟩
          · have E : Hid (inputE s.data.toList p u ext pay = 0) := by rw [Hid, inputE, if_neg (by simp [HVC.out.1]), if_neg (by simp [HVC.out.2]), hI.out, if_neg (by simp [hv])]
            have R : Hid (Fresh w (encB x7) r w9) := ⟨hfr.own.more hGz.size, hGz.below.trans (hfr.2.mono hGz.size)⟩
            obtain ⟨RA', rc', rfl, _⟩ := hfr.own.form
            clear hv hfr
            go_wp2_with fail
            go_ret2
            exact ⟨_, encB x7, by rw [E.out]; rfl, R.out, by rw [E.out, hI.out]; rfl⟩
end Go.Proofs.YtdbhgngikglmcaaDoor
namespace Go.Proofs.YtdbhgngikglmcaaDoor
open Go.RowKit

/-- The bytes of an item's elements. -/
def szL (x : Itm) : Nat := (encL x.items).length
theorem encB_len (k : Int) (n : Nat) (bs : List UInt8) (l : List Itm) (h8 : k ≠ 8) (h7 : k ≠ 7) : (encB (.mk k n bs l)).length ≤ 9 + bs.length + (encL l).length := by
  rw [encB_eq, if_neg (by simpa [Itm.kind] using h8), if_neg (by simp [Itm.kind, h7])]
  have := (headB_le k.toNat (numP (.mk k n bs l))).2
  simp only [Itm.kind, Itm.bytes, Itm.items, List.length_append]
  omega
theorem good_str (k : Int) (hk : k = 2 ∨ k = 3) (bs : List UInt8) (lv : Nat) (hv : k = 3 → Lib.validD bs = true) : Good (.mk k 0 bs []) lv := by
  refine Good.of ?_ (by simp only [Itm.items]; rw [GoodL]; trivial) (fun h => by simp only [Itm.kind] at h; omega)
  rw [nodeOk, if_pos (by rw [isPlain_iff]; simp only [Itm.kind]; omega)]
  rcases hk with rfl | rfl
  · simp [okPlain, Itm.kind, Itm.n, Itm.items]
  · simp [okPlain, Itm.kind, Itm.n, Itm.items, Itm.bytes, hv rfl]
theorem input_good {ctx : List UInt8} {p : Itm} {ext : List UInt8} {pay : List (List UInt8)} (hc : Lib.validD ctx = true) : Good (inputI ctx p ext pay) 0 := by
  refine Good.of ?_ ?_ (fun h => by simp [inputI, Itm.kind] at h)
  · rw [nodeOk, if_neg (by rw [isPlain_iff]; simp [inputI, Itm.kind])]
    simp [frameOk, inputI, Itm.kind, Itm.bytes, Itm.n]
  · refine GoodL.of fun x hx => ?_
    simp only [inputI, Itm.items, List.cons_append, List.nil_append, List.mem_cons, List.mem_map] at hx
    rcases hx with rfl | rfl | rfl | ⟨l, _, rfl⟩
    · exact good_str 3 (.inr rfl) _ _ (fun _ => hc)
    · exact good_str 2 (.inl rfl) _ _ (fun h => by omega)
    · exact good_str 2 (.inl rfl) _ _ (fun h => by omega)
    · exact good_str 2 (.inl rfl) _ _ (fun h => by omega)
theorem input_valid {ctx : List UInt8} {p : Itm} {ext a : List UInt8} (hc : Lib.validD ctx = true) (hl : ctx.length + (protB p).length + ext.length + a.length ≤ 4000) : validP (inputI ctx p ext [a]) = true := by
  rw [validP_iff]
  refine ⟨input_good hc, ?_, ?_⟩
  · simp [inputI, cnt, cntL]
  · have h0 := encB_len 4 0 [] ([.mk 3 0 ctx [], bytesItm (protB p), bytesItm ext] ++ [a].map bytesItm) (by omega) (by omega)
    have h1 := encB_len 3 0 ctx [] (by omega) (by omega)
    have h2 : (encB (bytesItm (protB p))).length ≤ _ := encB_len 2 0 (protB p) [] (by omega) (by omega)
    have h3 : (encB (bytesItm ext)).length ≤ _ := encB_len 2 0 ext [] (by omega) (by omega)
    have h4 : (encB (bytesItm a)).length ≤ _ := encB_len 2 0 a [] (by omega) (by omega)
    simp only [inputI, List.map_cons, List.map_nil, List.cons_append, List.nil_append, encL, List.length_append, List.length_nil] at h0 h1 h2 h3 h4 ⊢
    omega
theorem input_nums (ctx : List UInt8) (p : Itm) (ext : List UInt8) (pay : List (List UInt8)) : Nums (inputI ctx p ext pay) := by
  rw [inputI, Nums]
  refine ⟨by omega, NumsL.of fun x hx => ?_⟩
  simp only [List.cons_append, List.nil_append, List.mem_cons, List.mem_map] at hx
  rcases hx with rfl | rfl | rfl | ⟨l, _, rfl⟩ <;> (rw [Nums, NumsL]; exact ⟨by omega, trivial⟩)
theorem encB_ne (x : Itm) (h : validP x = true) : encB x ≠ [] := by
  obtain ⟨a, t, e, _⟩ := encB_cons x (nodeOk_kind ((validP_iff x).1 h).1.node)
  rw [e]
  simp
theorem map_empty {p : Itm} (h : validP p = true) (h5 : p.kind = 5) (h0 : p.items = []) : p = .mk 5 0 [] [] := by
  have hf := frameOk_spec (frame_of ((validP_iff p).1 h).1 (by omega))
  cases p with
  | mk k n bs l =>
    simp only [Itm.kind, Itm.n, Itm.bytes, Itm.items] at *
    have h1 := hf.2.2.2.2.2.1 (by omega)
    have h2 := List.length_eq_zero_iff.1 hf.2.2.2.1
    rw [h5, h1, h2, h0]
theorem protB_inj {p q : Itm} (hp : validP p = true) (hq : validP q = true) (p5 : p.kind = 5) (q5 : q.kind = 5) (np : Nums p) (nq : Nums q) (h : protB p = protB q) : p = q := by
  unfold protB at h
  by_cases h1 : p.items.length = 0
  · by_cases h2 : q.items.length = 0
    · rw [map_empty hp p5 (List.length_eq_zero_iff.1 h1), map_empty hq q5 (List.length_eq_zero_iff.1 h2)]
    · rw [if_pos h1, if_neg h2] at h
      exact absurd h.symm (encB_ne q hq)
  · by_cases h2 : q.items.length = 0
    · rw [if_neg h1, if_pos h2] at h
      exact absurd h (encB_ne p hp)
    · rw [if_neg h1, if_neg h2] at h
      exact (encB_inj p q 0 0 [] [] (Fits.of hp np) (Fits.of hq nq) (by rw [h])).1
theorem input_inj {c c' : List UInt8} {p p' : Itm} {a b a' b' : List UInt8} (hv : validP (inputI c p a [b]) = true) (hv' : validP (inputI c' p' a' [b']) = true)
    (hp : validP p = true) (hp' : validP p' = true) (p5 : p.kind = 5) (p5' : p'.kind = 5) (np : Nums p) (np' : Nums p') :
    encB (inputI c p a [b]) = encB (inputI c' p' a' [b']) ↔ c = c' ∧ p = p' ∧ a = a' ∧ b = b' := by
  constructor
  · intro h
    have := (encB_inj _ _ 0 0 [] [] (Fits.of hv (input_nums ..)) (Fits.of hv' (input_nums ..)) (by rw [h])).1
    simp only [inputI, List.map_cons, List.map_nil, List.cons_append, List.nil_append, Itm.mk.injEq, List.cons.injEq, true_and, and_true] at this
    obtain ⟨h1, h2, h3, h4⟩ := this
    exact ⟨h1, protB_inj hp hp' p5 p5' np np' h2, h3, h4⟩
  · rintro ⟨rfl, rfl, rfl, rfl⟩
    rfl
theorem protB_len {p : Itm} (p5 : p.kind = 5) (hb : p.bytes = []) : (protB p).length ≤ 9 + szL p := by
  unfold protB
  split
  · simp
  · cases p with
    | mk k n bs l =>
      simp only [Itm.kind, Itm.bytes] at p5 hb
      subst p5 hb
      have := encB_len 5 n [] l (by omega) (by omega)
      simpa [szL, Itm.items] using this
end Go.Proofs.YtdbhgngikglmcaaDoor
namespace Go.Proofs.YtdbhgngikglmcaaDoor
open Go.RowKit

abbrev emptyM : Itm := .mk 5 0 [] []
abbrev algM : Itm := .mk 5 0 [] [.mk 0 1 [] [], .mk 0 10 [] []]
theorem empty_validP : validP emptyM = true := by
  rw [validP_iff]
  refine ⟨Good.of rfl (by simp only [Itm.items]; rw [GoodL]; trivial) (fun _ => rfl), by simp [cnt, cntL], ?_⟩
  rw [encB_eq]
  simp [Itm.kind, Itm.bytes, Itm.items, encL]
  have := (headB_le 5 (numP emptyM)).2
  omega
theorem alg_validP : validP algM = true := by
  rw [validP_iff]
  refine ⟨Good.of rfl (GoodL.of fun x hx => ?_) (fun _ => rfl), by simp [cnt, cntL], ?_⟩
  · simp [Itm.items] at hx
    rcases hx with rfl | rfl
    · exact good_int 1 1
    · exact good_int 10 1
  · have h0 := encB_len 5 0 [] [.mk 0 1 [] [], .mk 0 10 [] []] (by omega) (by omega)
    have h1 := encB_len 0 1 [] [] (by omega) (by omega)
    have h2 := encB_len 0 10 [] [] (by omega) (by omega)
    simp only [encL, List.length_append, List.length_nil] at h0 h1 h2
    show (encB (.mk 5 0 [] [.mk 0 1 [] [], .mk 0 10 [] []])).length ≤ 4096
    omega
theorem nums_empty : Nums emptyM := by rw [Nums, NumsL]; exact ⟨by omega, trivial⟩
theorem nums_alg : Nums algM := by
  rw [Nums, NumsL, NumsL, NumsL, Nums, NumsL, Nums, NumsL]
  exact ⟨by omega, ⟨by omega, trivial⟩, ⟨by omega, trivial⟩, trivial⟩
theorem empty_valid : validH emptyM emptyM = true := by
  rw [← validHR_eq nums_empty nums_empty, validHR]
  simp [validR_eq, empty_validP, Itm.kind, Itm.items, pairsOkR, keysR, findR, atL]
theorem alg_valid1 : validH algM emptyM = true := by
  rw [← validHR_eq nums_alg nums_empty, validHR]
  simp [validR_eq, empty_validP, alg_validP, Itm.kind, Itm.items, Itm.n, pairsOkR, keysR, findR, atL, labelP, numberP, valueP, intP, sameB, sameL]
theorem alg_valid2 : validH emptyM algM = true := by
  rw [← validHR_eq nums_empty nums_alg, validHR]
  simp [validR_eq, empty_validP, alg_validP, Itm.kind, Itm.items, Itm.n, pairsOkR, keysR, findR, atL, labelP, numberP, valueP, intP, sameB, sameL]
theorem empty_find (n : Int) : findR emptyM emptyM n = none := by simp [findR, atL, Itm.items]
theorem intP_1 : intP 1 = .mk 0 1 [] [] := by simp [intP]
theorem intP_10 : intP 10 = .mk 0 10 [] [] := by simp [intP]
theorem modest_zero : Modest zeroItm := by rw [Modest, ModestL]; exact ⟨by simp, by simp, trivial⟩
theorem encB_int (n : Int) : (encB (intP n)).length ≤ 9 := by
  unfold intP
  split
  · have := encB_len 1 (-1 - n).toNat [] [] (by omega) (by omega); simpa [encL] using this
  · have := encB_len 0 n.toNat [] [] (by omega) (by omega); simpa [encL] using this
end Go.Proofs.YtdbhgngikglmcaaDoor
