/- Walks: the key of bytes, on both sides; the comparison of two equal keys. Walks: the law: what is written of a key is read as that key. -/
import Derived.Test.YtebcnkelbicbnaaGreatDoorM34
import Derived.Test.YtebcnkelbicbnaaGreatDoorM22
import Derived.Test.YtebcnkelbicbnaaGreatDoorM12
import Derived.Test.YtebcnkelbicbnaaGreatDoorM01
import Derived.Test.YtebcnkelbicbnaaGreatDoorM02
import Derived.Test.YtebcnkelbicbnaaGreatDoorM10
import Derived.Test.YtebcnkelbicbnaaGreatDoorM15
import Derived.Test.YtebcnkelbicbnaaGreatDoorM20
import Derived.Test.YtebcnkelbicbnaaGreatDoorM32
import Derived.Test.YtebcnkelbicbnaaGreatDoorM19
set_option linter.unusedVariables false
set_option linter.unusedSimpArgs false
namespace Go.Proofs.YtebcnkelbicbnaaGreatDoor
open Go.RowKit

theorem decodeP_err0' {l : List UInt8} {q : Nat} (h : decodeP l = .error q) : q ≠ 0 := by
  unfold decodeP at h
  split at h
  · injection h with h; omega
  · split at h
    · rename_i e hp
      injection h with h
      subst h
      exact parse_err _ _ _ _ hp
    · split at h
      · injection h with h; omega
      · cases h
def DecKOut (w : World) (H : Snap) (l : List UInt8) (e : Ending) (w' : World) : Prop :=
  match decodeP l with
  | .error q => e = .returned (.tuple #[.agg zeroK, .int .i64 (q : Int)]) ∧ Below w.heap.size w w'
  | .ok x => FromOut w H x e w'
set_option maxRecDepth 100000 in
set_option maxHeartbeats 12800000 in
theorem key_Decode {H : Snap} (hTab : Tabs H) (w : World) (hH : Holds w H) {A : Option Addr} {n c : Nat} {l : List UInt8} (hn : n = l.length) (hl : IsBytes H A c l) :
    Calls Tryz.prog 21 #[.slice A n c] w (DecKOut w H l) := by
  have hR := Blk.new w 33 zeroK
  have hRn : H w.heap.size = none := hH.none_of_ge (Nat.le_refl _)
  have hG := (Grows.refl hH).alloc (.cells zeroK 33)
  have DC := Lib.hid (cbor_Decode hTab _ hG.holds hn hl)
  have HT := Lib.hid hTab
  clear hn hl hTab hH
  go_enter Tryz.func21, Tryz.ntmps21
  go_wp2_with fail
  refine DC.out.mono ?_
  intro e w2 hs
  clear DC
  unfold DecodeOut at hs
  cases hd : decodeP l with
  | error q =>
    rw [hd] at hs
    obtain ⟨rfl, hb2⟩ := hs
    have hq0 : ((q : Int) != 0) = true := by rw [bne_iff_ne]; have := decodeP_err0' hd; omega
    have hq1 : ((q : Int) = 0) = False := eq_false (by have := decodeP_err0' hd; omega)
    have HD := Lib.hid hd
    replace hR := hR.below hb2
    replace hG := hG.below_ hb2
    replace hR := hR.alloc zeroO
    replace hG := hG.alloc zeroO
    clear hd hb2
    go_upto_region 3 with fail
    go_wp2_with (with_reducible refine stop_store ?_)
    unfold Stopped
    refine wpList_store_item rfl _ _ _ rfl rfl _ _ rfl rfl _ _ hR size_key rfl (one7 _ _ _ _ _ _ _ rfl rfl rfl rfl rfl rfl rfl) fun wz hRz hgz => ?_
    have hdz := hG.grownOwn hRn (Nat.le_refl _) hgz
    clear hG hR hgz
    go_wp2_with fail
    refine ret_row_tmp rfl rfl hRz rfl rfl size_key rfl ?_
    unfold DecKOut
    rw [HD.out]
    exact ⟨rfl, hdz.below⟩
  | ok x =>
    rw [hd] at hs
    obtain ⟨ja, jb, jc, jd, H2, rfl, hG2, hI2⟩ := hs
    have HD := Lib.hid hd
    replace hR := (hR.below hG2.below).alloc (itemO x ja jb jc jd)
    have hRn2 := hG2.none hRn (by simp)
    replace hG := (hG.trans hG2).alloc (itemO x ja jb jc jd)
    have hRl := Lib.hid hR.lt
    have FR := Lib.hid (key_FromItem (HT.out.mono hG.le) hI2 _ hG.holds)
    clear hd hG2 hI2
    go_wp2_with fail
    refine FR.out.mono ?_
    intro e w5 hs
    clear FR
    have hz := hG.size
    have hres : ∃ (cs : List Value) (c0 c1 c2 c3 c4 c5 c6 : Value) (cd : Int) (H5 : Snap), e = .returned (.tuple #[.agg #[c0, c1, c2, c3, c4, c5, c6], .int .i64 cd]) ∧ (#[c0, c1, c2, c3, c4, c5, c6] : Array Value).all (·.oneCell') = true ∧ Grows (w2.alloc (itemO x ja jb jc jd)) H2 w5 H5 ∧
        (∀ wz : World, Grows w H wz H5 → FromOut w H x (.returned (.tuple #[.agg #[c0, c1, c2, c3, c4, c5, c6], .int .i64 cd])) wz) := by
      rcases hs with ⟨h1, rfl, hb⟩ | ⟨h1, h2, rfl, hb⟩ | ⟨q, a, H5, h1, h2, rfl, hG5, hk⟩
      · exact ⟨[], _, _, _, _, _, _, _, _, H2, rfl, one7 _ _ _ _ _ _ _ rfl rfl rfl rfl rfl rfl rfl, Grows.of_below hG.holds hb, fun wz hz => .inl ⟨h1, rfl, hz.below⟩⟩
      · exact ⟨[], _, _, _, _, _, _, _, _, H2, rfl, one7 _ _ _ _ _ _ _ rfl rfl rfl rfl rfl rfl rfl, Grows.of_below hG.holds hb, fun wz hz => .inr (.inl ⟨h1, h2, rfl, hz.below⟩)⟩
      · exact ⟨[], _, _, _, _, _, _, _, _, H5, rfl, one7 _ _ _ _ _ _ _ rfl rfl rfl rfl rfl rfl rfl, hG5, fun wz hz => .inr (.inr ⟨q, a, H5, h1, h2, rfl, hz, hk⟩)⟩
    clear hs
    obtain ⟨_, c0, c1, c2, c3, c4, c5, c6, cd, H5, rfl, hone, hG5, hfin⟩ := hres
    replace hR := hR.below hG5.below
    have hRn5 := hG5.none hRn2 hRl.out
    replace hG := hG.trans hG5
    have HF := Lib.hid (And.intro hfin hone)
    clear hfin hone hG5 hz hRn2
    go_wp2_with (with_reducible refine stop_store ?_)
    unfold Stopped
    refine wpList_store_item rfl _ _ _ rfl rfl _ _ rfl rfl _ _ hR size_key rfl HF.out.2 fun wz hRz hgz => ?_
    have hdz := hG.grownOwn hRn5 (Nat.le_refl _) hgz
    clear hG hR hgz
    go_wp2_with fail
    refine ret_row_tmp rfl rfl hRz rfl rfl size_key rfl ?_
    unfold DecKOut
    rw [HD.out]
    exact HF.out.1 _ hdz
set_option maxRecDepth 100000 in
set_option maxHeartbeats 12800000 in
/-- Keys of one value are the same. -/
theorem ref11_Same {H : Snap} {q : Ky} {a b : KAd} (ha : KeyA H q a) (hb : KeyA H q b) (w : World) (hH : Holds w H) :
    Calls Tryz.prog 19 #[.agg (keyQ q a), .agg (keyQ q b)] w fun e w' => e = .returned (.bool true) ∧ Below w.heap.size w w' := by
  have hX := (Blk.new w 33 (keyQ q a)).alloc (.cells (keyQ q b) 33)
  have hY := Blk.new (w.alloc (.cells (keyQ q a) 33)) 33 (keyQ q b)
  rw [size_alloc] at hY
  have hbb := (below_box w (.cells (keyQ q a) 33)).alloc (below_box w (.cells (keyQ q a) 33)).size (.cells (keyQ q b) 33)
  have hh := (hH.alloc (.cells (keyQ q a) 33)).alloc (.cells (keyQ q b) 33)
  have x0 := hX.cell 0 rfl
  have x1 := hX.cell 1 rfl
  have x2 := hX.cell 2 rfl
  have x3 := hX.cell 3 rfl
  have x4 := hX.cell 4 rfl
  have x5 := hX.cell 5 rfl
  have x6 := hX.cell 6 rfl
  have y0 := hY.cell 0 rfl
  have y1 := hY.cell 1 rfl
  have y2 := hY.cell 2 rfl
  have y3 := hY.cell 3 rfl
  have y4 := hY.cell 4 rfl
  have y5 := hY.cell 5 rfl
  have y6 := hY.cell 6 rfl
  have k1 := conv_bytes (Src.of_row ha.kid.row hh) _ a.ic rfl
  have k2 := conv_bytes (Src.of_row hb.kid.row hh) _ b.ic rfl
  have k3 := conv_bytes (Src.of_row ha.x.row hh) _ a.xc rfl
  have k4 := conv_bytes (Src.of_row hb.x.row hh) _ b.xc rfl
  have k5 := conv_bytes (Src.of_row ha.d.row hh) _ a.dc rfl
  have k6 := conv_bytes (Src.of_row hb.d.row hh) _ b.dc rfl
  have k7 := conv_bytes (Src.of_row ha.k.row hh) _ a.kc rfl
  have k8 := conv_bytes (Src.of_row hb.k.row hh) _ b.kc rfl
  clear hX hY ha hb hh hH
  go_enter Tryz.func19, Tryz.ntmps19
  go_wp2_with fail
  go_ret
  exact ⟨rfl, hbb⟩
end Go.Proofs.YtebcnkelbicbnaaGreatDoor
namespace Go.Proofs.YtebcnkelbicbnaaGreatDoor
open Go.RowKit

theorem FromOut.key {w : World} {H : Snap} {x : Itm} {e : Ending} {w' : World} {k : Ky} (hv : validK k = true) (hx : itemK k = x) (h : FromOut w H x e w') :
    ∃ a H', e = .returned (.tuple #[.agg (keyQ k a), .int .i64 0]) ∧ Grows w H w' H' ∧ KeyA H' k a := by
  rcases h with ⟨h1, _⟩ | ⟨_, h2, _⟩ | ⟨q, a, H', _, h2, rfl, hG, hk⟩
  · rw [← hx, validP_itemK hv] at h1
    cases h1
  · exact absurd ⟨k, hv, hx⟩ h2
  · obtain rfl : q = k := itemK_inj h2.1 hv (h2.2.trans hx.symm)
    exact ⟨a, H', rfl, hG, hk⟩
theorem DecKOut.key {w : World} {H : Snap} {l : List UInt8} {e : Ending} {w' : World} {k : Ky} (hv : validK k = true) (hl : l = encB (itemK k)) (h : DecKOut w H l e w') :
    ∃ a H', e = .returned (.tuple #[.agg (keyQ k a), .int .i64 0]) ∧ Grows w H w' H' ∧ KeyA H' k a := by
  rw [DecKOut, hl, decodeP_itemK hv] at h
  exact FromOut.key hv rfl h
set_option maxRecDepth 100000 in
set_option maxHeartbeats 25600000 in
theorem law11_back {H : Snap} (hTab : Tabs H) {A : Option Addr} {c : Nat} {l : List Int} (hl : IsInts H A c l) (w : World) (hH : Holds w H) :
    Calls Tryz.prog 4 #[.slice A l.length c] w fun e w' => e = .returned (.bool true) ∧ Below w.heap.size w w' := by
  have NW := Lib.hid (mk_New hl w)
  have HT := Lib.hid hTab
  have HH := Lib.hid hH
  obtain ⟨nl, hnl⟩ : ∃ nl, l.length = nl := ⟨_, rfl⟩
  rw [hnl] at NW ⊢
  clear hTab hl hH hnl
  go_enter Tryz.func4, Tryz.ntmps4
  go_wp2_with fail
  refine NW.out.mono ?_
  rintro e w4 ⟨rfl, hdk, hb4⟩
  have hG4 := (Grows.refl HH.out).below_ hb4
  have hDI : DeckIn w4 w.heap.size H := ⟨hdk, hG4.holds, HH.out.none_of_ge (Nat.le_refl _)⟩
  clear hdk hb4 NW
  go_wp2_with fail
  refine (deck_Key _ hDI).mono ?_
  rintro e w5 ⟨k, ka, H5, rfl, hd5, hk5, hv5⟩
  have hG5 := hG4.trans_but hd5.grows (Nat.le_refl _)
  have hB := Blk.new w5 33 (keyQ k ka)
  have hG := hG5.alloc (.cells (keyQ k ka) 33)
  have HK := Lib.hid hk5
  have HV := Lib.hid hv5
  obtain ⟨X, hX⟩ : ∃ X, itemK k = X := ⟨_, rfl⟩
  have HE := Lib.hid (And.intro (show itmK k = X by rw [itmK, if_pos hv5, hX]) (And.intro (show codeK k = 0 by rw [codeK, if_pos hv5]) hX))
  have HVX := Lib.hid (show validP X = true by rw [← hX]; exact validP_itemK hv5)
  clear hd5 hk5 hv5 hX hDI hG4 hG5
  have c0 := hB.cell 0 rfl
  have c1 := hB.cell 1 rfl
  have c2 := hB.cell 2 rfl
  have c3 := hB.cell 3 rfl
  have c4 := hB.cell 4 rfl
  have c5 := hB.cell 5 rfl
  have c6 := hB.cell 6 rfl
  go_wp2_with fail
  refine (key_ToItem (HT.out.mono hG.le) HK.out _ hG.holds).mono ?_
  rintro e w11 ⟨v1, rfl, y1, y2, y3, y4, H1, rfl, hG2, hI1⟩
  rw [HE.out.1] at hI1 ⊢
  rw [HE.out.2.1]
  replace HK := Lib.hid (HK.out.mono hG2.le)
  replace hB := (hB.below hG2.below).alloc (itemO X y1 y2 y3 y4)
  have hU := Blk.new w11 26 #[.int .i64 X.kind, .int .u64 X.n, .slice y1 X.bytes.length y2, .slice y3 X.items.length y4]
  replace hG := (hG.trans hG2).alloc (itemO X y1 y2 y3 y4)
  have HI := Lib.hid hI1
  clear hG2 hI1 c0 c1 c2 c3 c4 c5 c6
  have c0 := hB.cell 0 rfl
  have c1 := hB.cell 1 rfl
  have c2 := hB.cell 2 rfl
  have c3 := hB.cell 3 rfl
  have c4 := hB.cell 4 rfl
  have c5 := hB.cell 5 rfl
  have c6 := hB.cell 6 rfl
  go_wp2_with fail
  refine (key_Encode (HT.out.mono hG.le) HK.out _ hG.holds).mono ?_
  rintro e w13 ⟨v3, l3, rfl, hf, hl3⟩
  rw [HE.out.2.1]
  rw [if_pos HV.out] at hl3
  obtain ⟨RA, rc, rfl, hjk⟩ := hf.own.form
  clear hjk
  obtain ⟨H3, hG3, hb3, hn3⟩ := Fresh.snapB hG.holds hf
  clear hn3 hf
  replace HK := Lib.hid (HK.out.mono hG3.le)
  replace HI := Lib.hid (HI.out.mono hG3.le)
  replace hB := hB.below hG3.below
  replace hU := hU.below hG3.below
  replace hG := hG.trans hG3
  have HS := Lib.hid hb3
  have HL3 := Lib.hid hl3
  obtain ⟨n3, hn3⟩ : ∃ n3, l3.length = n3 := ⟨_, rfl⟩
  have HN3 := Lib.hid hn3
  rw [hn3]
  clear hG3 hb3 hl3 hn3 c0 c1 c2 c3 c4 c5 c6
  have c0 := hU.cell 0 rfl
  have c1 := hU.cell 1 rfl
  have c2 := hU.cell 2 rfl
  have c3 := hU.cell 3 rfl
  go_wp2_with fail
  refine (key_FromItem (HT.out.mono hG.le) HI.out _ hG.holds).mono ?_
  intro e w15 ho
  obtain ⟨a1, H5, rfl, hG5, hk5⟩ := FromOut.key HV.out HE.out.2.2 ho
  clear ho
  replace HK := Lib.hid (HK.out.mono hG5.le)
  replace HS := Lib.hid (HS.out.mono hG5.le)
  replace hB := (hB.below hG5.below).alloc (.cells (keyQ k a1) 33)
  have hP := Blk.new w15 33 (keyQ k a1)
  replace hG := (hG.trans hG5).alloc (.cells (keyQ k a1) 33)
  have HK1 := Lib.hid hk5
  clear hG5 hk5 hU c0 c1 c2 c3
  go_wp2_with fail
  refine (key_Decode (HT.out.mono hG.le) _ hG.holds HN3.out.symm HS.out).mono ?_
  intro e w16 ho
  obtain ⟨a2, H6, rfl, hG6, hk6⟩ := DecKOut.key HV.out HL3.out ho
  clear ho
  replace HK := Lib.hid (HK.out.mono hG6.le)
  replace HK1 := Lib.hid (HK1.out.mono hG6.le)
  replace hB := (hB.below hG6.below).alloc (.cells (keyQ k a2) 33)
  replace hP := (hP.below hG6.below).alloc (.cells (keyQ k a2) 33)
  have hQ := Blk.new w16 33 (keyQ k a2)
  replace hG := (hG.trans hG6).alloc (.cells (keyQ k a2) 33)
  have HK2 := Lib.hid hk6
  clear hG6 hk6
  have c0 := hB.cell 0 rfl
  have c1 := hB.cell 1 rfl
  have c2 := hB.cell 2 rfl
  have c3 := hB.cell 3 rfl
  have c4 := hB.cell 4 rfl
  have c5 := hB.cell 5 rfl
  have c6 := hB.cell 6 rfl
  have p0 := hP.cell 0 rfl
  have p1 := hP.cell 1 rfl
  have p2 := hP.cell 2 rfl
  have p3 := hP.cell 3 rfl
  have p4 := hP.cell 4 rfl
  have p5 := hP.cell 5 rfl
  have p6 := hP.cell 6 rfl
  go_wp2_with fail
  refine (ref11_Same HK1.out HK.out _ hG.holds).mono ?_
  rintro e w17 ⟨rfl, hb7⟩
  replace hB := hB.below hb7
  replace hQ := hQ.below hb7
  replace hG := hG.below_ hb7
  clear hb7 hP c0 c1 c2 c3 c4 c5 c6 p0 p1 p2 p3 p4 p5 p6
  have c0 := hB.cell 0 rfl
  have c1 := hB.cell 1 rfl
  have c2 := hB.cell 2 rfl
  have c3 := hB.cell 3 rfl
  have c4 := hB.cell 4 rfl
  have c5 := hB.cell 5 rfl
  have c6 := hB.cell 6 rfl
  have p0 := hQ.cell 0 rfl
  have p1 := hQ.cell 1 rfl
  have p2 := hQ.cell 2 rfl
  have p3 := hQ.cell 3 rfl
  have p4 := hQ.cell 4 rfl
  have p5 := hQ.cell 5 rfl
  have p6 := hQ.cell 6 rfl
  go_wp2_with fail
  refine (ref11_Same HK2.out HK.out _ hG.holds).mono ?_
  rintro e w18 ⟨rfl, hb8⟩
  replace hG := hG.below_ hb8
  clear hb8 hQ hB c0 c1 c2 c3 c4 c5 c6 p0 p1 p2 p3 p4 p5 p6
  go_wp2_with fail
  refine (law11_awake (HT.out.mono hG.le) _ hG.holds).mono ?_
  rintro e w19 ⟨rfl, hb9⟩
  replace hG := hG.below_ hb9
  go_wp2_with fail
  go_ret
  exact ⟨rfl, hG.below⟩
end Go.Proofs.YtebcnkelbicbnaaGreatDoor
