/- Walks: the references' Put. -/
import Derived.Test.YtdbhgngikglmcaaDoorRq
import Derived.Test.YtdbhgngikglmcaaDoorRn
import Derived.Test.YtdbhgngikglmcaaDoorJenv
set_option linter.unusedVariables false
set_option linter.unusedSimpArgs false
namespace Go.Proofs.YtdbhgngikglmcaaDoor
open Go.RowKit

/-- What Put answers. -/
def PutSaid (w : World) (H : Snap) (p u : Itm) (n : Int) (v : Itm) (e : Ending) (w' : World) : Prop :=
  ∃ p' u' val c, e = .returned (.tuple #[val, .int .i64 c]) ∧ GivesH w H p' u' val w' ∧ (c = 0 → validH p' u' = true ∧ szL p' ≤ szL p + 9 + (encB v).length ∧ szL u' ≤ szL u + 9 + (encB v).length) ∧ Modest p' ∧ Modest u' ∧
    (p = emptyM → u = emptyM → n = 1 → v = intP 10 → c = 0)
theorem IsRowI.two {H : Snap} {A : Option Addr} {c : Nat} {l : List Itm} (hle : l.length ≤ c) (hm : c ≤ 9223372036854775807) (he : 0 < l.length → ∃ b off, A = some ⟨b, off, none⟩ ∧ IsElems H b off l) : IsRowI H A c l := ⟨hle, hm, he⟩
/-- What Build answers, in one form. -/
def BOut (ps : List Itm) (c : Int) (x : Itm) : Prop :=
  (c = 0 ∧ ∃ l, x = .mk 5 0 [] l ∧ validP x = true ∧ (encL l).length = (encL ps).length ∧ (ps.length = 2 → l = ps)) ∨
  (c ≠ 0 ∧ x = zeroItm ∧ ¬ (ps.length = 2 ∧ (∀ x ∈ ps, validP x = true) ∧ validP (.mk 5 0 [] ps) = true))
theorem BuildSaid.one {w w' : World} {H : Snap} {ps : List Itm} {e : Ending} (h : BuildSaid w H ps e w') : ∃ v c x, e = .returned (.tuple #[v, .int .i64 c]) ∧ Gives w H x v w' ∧ BOut ps c x := by
  obtain ⟨v, ⟨l, h1, h2, h3, h4, h5⟩ | ⟨c, h1, h2, h3, h4⟩⟩ := h
  · exact ⟨v, 0, _, h1, h2, .inl ⟨rfl, l, rfl, h3, h4, h5⟩⟩
  · exact ⟨v, c, _, h1, h3, .inr ⟨h2, rfl, h4⟩⟩
theorem IsRowI.src {H : Snap} {A : Option Addr} {c : Nat} {l : List Itm} (h : IsRowI H A c l) : ∃ cs, ItemsC H cs l ∧ Row H A cs := by
  by_cases h0 : 0 < l.length
  · obtain ⟨b, off, rfl, he⟩ := h.elems h0
    obtain ⟨cs, hc, hx⟩ := he.cells
    exact ⟨cs, hc, fun _ => ⟨b, off, rfl, hx⟩⟩
  · have hl : l = [] := List.length_eq_zero_iff.1 (by omega)
    subst hl
    exact ⟨[], ItemsC.nil H, Row.nil _ _⟩
theorem own_hid {w wr : World} {H Hr : Snap} (hG : Grows w H wr Hr) {r : Option Nat} (h : At0 wr (Value.slice none 0 0).ownBlock r) : ∀ q, r = some q → Hr q = none := fun q hq => by
  rcases h with h | ⟨g, h1, h2⟩
  · rw [h] at hq; simp [Value.ownBlock] at hq
  · rw [hq] at h1; injection h1 with h1; subst h1; exact hG.hidden h2
theorem own_hid2 {w wr : World} {H Hr : Snap} (hG : Grows w H wr Hr) {r0 r : Option Nat} (h0 : ∀ q, r0 = some q → Hr q = none) (h : At0 wr r0 r) : ∀ q, r = some q → Hr q = none := fun q hq => by
  rcases h with h | ⟨g, h1, h2⟩
  · exact h0 q (by rw [← h, hq])
  · rw [hq] at h1; injection h1 with h1; subst h1; exact hG.hidden h2
theorem snap_keep {H H' : Snap} {A : Option Addr} (hf : ∀ b o, H' b = some o → H b = some o ∨ A.map (·.block) = some b) {q : Nat} (h0 : H q = none) (hA : A.map (·.block) = some q → False) : H' q = none := by
  cases h : H' q with
  | none => rfl
  | some o =>
    rcases hf q o h with h1 | h1
    · rw [h0] at h1; cases h1
    · exact (hA h1).elim
theorem szL_put (m : Itm) (n : Int) (v : Itm) {l : List Itm} (h : (encL l).length = (encL (m.items ++ [intP n, v])).length) : szL (.mk 5 0 [] l) ≤ szL m + 9 + (encB v).length := by
  have := encB_int n
  rw [szL, szL]
  simp only [Itm.items, h, encL_append, encL, List.length_append, List.append_nil]
  omega

set_option maxRecDepth 100000 in
set_option maxHeartbeats 12800000 in
theorem ref12_Put {H : Snap} (hTab : Tabs H) {p u v : Itm} {a b d : Ad} (hp : IsItem H a.ba a.bc a.ia a.ic p) (hu : IsItem H b.ba b.bc b.ia b.ic u) (hv : IsItem H d.ba d.bc d.ia d.ic v) (prot : Bool) (n : Int) (hn1 : -9223372036854775808 ≤ n) (hn2 : n ≤ 9223372036854775807) (w : World) (hH : Holds w H) :
    Calls Tryd.prog 28 #[.agg (hdrC p a u b), .bool prot, .int .i64 n, itemV v d.ba d.bc d.ia d.ic] w (PutSaid w H p u n v) := by
  have hB := ((Blk.new w 28 (hdrC p a u b)).alloc (itemO v d.ba d.bc d.ia d.ic)).alloc zeroH
  have hV := (Blk.new (w.alloc (.cells (hdrC p a u b) 28)) 26 #[.int .i64 v.kind, .int .u64 v.n, .slice d.ba v.bytes.length d.bc, .slice d.ia v.items.length d.ic]).alloc zeroH
  have hT := Blk.new ((w.alloc (.cells (hdrC p a u b) 28)).alloc (itemO v d.ba d.bc d.ia d.ic)) 28 (hdrC zeroItm ⟨none, 0, none, 0⟩ zeroItm ⟨none, 0, none, 0⟩)
  simp only [size_alloc] at hV hT
  have hG := (((Grows.refl hH).alloc (.cells (hdrC p a u b) 28)).alloc (itemO v d.ba d.bc d.ia d.ic)).alloc zeroH
  have hn0 : H (w.heap.size + 1 + 1) = none := hH.none_of_ge (by omega)
  have VH := Lib.hid (ref12_ValidH hTab hp hu _ hG.holds)
  have HN := Lib.hid (And.intro hn1 hn2)
  clear hn1 hn2
  cases hvh : validH p u with
  | false =>
    rw [hvh] at VH
    have HV := Lib.hid hvh
    clear hvh
    go_enter Tryd.func28, Tryd.ntmps28
    go_wp2_with fail
    refine VH.out.mono ?_
    rintro e w1 ⟨rfl, hb1⟩
    have hT := hT.below hb1
    have hG := hG.below_ hb1
    clear VH hB hV hb1
    go_wp2_with (with_reducible refine stop_store ?_)
    unfold Stopped
    refine wpList_store_item rfl _ _ _ rfl rfl _ _ rfl rfl _ _ hT size_hdr rfl (by kernel_rfl) fun wz hTz hgz => ?_
    have hGz := hG.grownOwn hn0 (by omega) hgz
    go_wp2_with fail
    refine ret_row_tmp rfl rfl hTz rfl rfl size_hdr rfl ?_
    exact ⟨zeroItm, zeroItm, _, 1, rfl, ⟨⟨none, 0, none, 0⟩, ⟨none, 0, none, 0⟩, H, rfl, hGz, IsItem.plain _ 0 0 (by omega) (by omega), IsItem.plain _ 0 0 (by omega) (by omega)⟩, (fun h => by cases h), modest_zero, modest_zero, fun h1 h2 h3 h4 => by subst h1; subst h2; have := HV.out; rw [empty_valid] at this; cases this⟩
  | true =>
  rw [hvh] at VH
  have HV := Lib.hid hvh
  clear hvh
  go_enter Tryd.func28, Tryd.ntmps28
  go_wp2_with fail
  refine VH.out.mono ?_
  rintro e w1 ⟨rfl, hb1⟩
  have hB := hB.below hb1
  have hV := hV.below hb1
  have hT := hT.below hb1
  have hG := hG.below_ hb1
  have VV := Lib.hid (ref_Valid hTab hv.arg w1 hG.holds)
  have v0 := hV.cell 0 rfl
  have v1 := hV.cell 1 rfl
  have v2 := hV.cell 2 rfl
  have v3 := hV.cell 3 rfl
  cases hvv : validP v with
  | false =>
    rw [hvv] at VV
    have HVV := Lib.hid hvv
    clear hvv
    go_wp2_with fail
    refine VV.out.mono ?_
    rintro e w2 ⟨rfl, hb2⟩
    have hT := hT.below hb2
    have hG := hG.below_ hb2
    clear VH VV hB hV hb2 hb1 v0 v1 v2 v3
    go_wp2_with (with_reducible refine stop_store ?_)
    unfold Stopped
    refine wpList_store_item rfl _ _ _ rfl rfl _ _ rfl rfl _ _ hT size_hdr rfl (by kernel_rfl) fun wz hTz hgz => ?_
    have hGz := hG.grownOwn hn0 (by omega) hgz
    go_wp2_with fail
    refine ret_row_tmp rfl rfl hTz rfl rfl size_hdr rfl ?_
    exact ⟨zeroItm, zeroItm, _, 1, rfl, ⟨⟨none, 0, none, 0⟩, ⟨none, 0, none, 0⟩, H, rfl, hGz, IsItem.plain _ 0 0 (by omega) (by omega), IsItem.plain _ 0 0 (by omega) (by omega)⟩, (fun h => by cases h), modest_zero, modest_zero, fun h1 h2 h3 h4 => by subst h4; have := HVV.out; rw [show (10 : Int) = ((10 : Nat) : Int) from rfl, validP_int] at this; cases this⟩
  | true =>
  rw [hvv] at VV
  have HVV := Lib.hid hvv
  clear hvv
  go_wp2_with fail
  refine VV.out.mono ?_
  rintro e w2 ⟨rfl, hb2⟩
  have hB := hB.below hb2
  have hV := hV.below hb2
  have hT := hT.below hb2
  have hG := hG.below_ hb2
  have vv := validH_valid HV.out
  have hmp := validP_modest vv.1
  have hmu := validP_modest vv.2.1
  have HVP := Lib.hid vv
  have FD := Lib.hid (ref_find hmp hmu hp hu n HN.out.1 HN.out.2 w2 hG.holds)
  have HMP := Lib.hid (And.intro hmp hmu)
  have b0 := hB.cell 0 rfl
  have b1 := hB.cell 1 rfl
  have b2 := hB.cell 2 rfl
  have b3 := hB.cell 3 rfl
  have b4 := hB.cell 4 rfl
  have b5 := hB.cell 5 rfl
  have b6 := hB.cell 6 rfl
  have b7 := hB.cell 7 rfl
  clear v0 v1 v2 v3 hb1 hb2 vv hmp hmu VH VV
  go_wp2_with fail
  refine FD.out.mono ?_
  rintro e w3 ⟨v3, rfl, ka, kb, kc, kd, H3, rfl, hG3, hi3⟩
  have hB := hB.below hG3.below
  have hV := hV.below hG3.below
  have hn0 := hG3.none hn0 hT.lt
  have hT := hT.below hG3.below
  have hG := hG.trans hG3
  have hle3 := hG3.le
  clear b0 b1 b2 b3 b4 b5 b6 b7 FD hG3
  obtain ⟨FX, hFX⟩ : ∃ FX, (findR p u n).getD zeroItm = FX := ⟨_, rfl⟩
  rw [hFX] at hi3 ⊢
  have hF4 := hV.alloc (itemO FX ka kb kc kd)
  have hB := hB.alloc (itemO FX ka kb kc kd)
  have hT := hT.alloc (itemO FX ka kb kc kd)
  have hG := hG.alloc (itemO FX ka kb kc kd)
  have hV := hF4
  have HFX := Lib.hid hFX
  clear hFX hF4 hi3
  cases hfd : (findR p u n).isSome with
  | true =>
    have HF := Lib.hid hfd
    clear hfd
    go_upto_region 5 with fail
    go_wp2_with (with_reducible refine stop_store ?_)
    unfold Stopped
    refine wpList_store_item rfl _ _ _ rfl rfl _ _ rfl rfl _ _ hT size_hdr rfl (by kernel_rfl) fun wz hTz hgz => ?_
    have hGz := hG.grownOwn hn0 (by omega) hgz
    go_wp2_with fail
    refine ret_row_tmp rfl rfl hTz rfl rfl size_hdr rfl ?_
    exact ⟨zeroItm, zeroItm, _, 7, rfl, ⟨⟨none, 0, none, 0⟩, ⟨none, 0, none, 0⟩, _, rfl, hGz, IsItem.plain _ 0 0 (by omega) (by omega), IsItem.plain _ 0 0 (by omega) (by omega)⟩, (fun h => by cases h), modest_zero, modest_zero, fun h1 h2 h3 h4 => by subst h1; subst h2; have := HF.out; rw [empty_find] at this; cases this⟩
  | false =>
    have HF := Lib.hid hfd
    clear hfd
    have b0 := hB.cell 0 rfl
    have b1 := hB.cell 1 rfl
    have b2 := hB.cell 2 rfl
    have b3 := hB.cell 3 rfl
    have b4 := hB.cell 4 rfl
    have b5 := hB.cell 5 rfl
    have b6 := hB.cell 6 rfl
    have b7 := hB.cell 7 rfl
    have C := Lib.hid (ref12_Copy HMP.out.1 HMP.out.2 (hp.mono hG.le) (hu.mono hG.le) _ hG.holds)
    go_wp2_with fail
    refine C.out.mono ?_
    rintro e w4 ⟨v4, rfl, a2, b2', H4, rfl, hG4, hp4, hu4⟩
    have hV := hV.below hG4.below
    have hn0 := hG4.none hn0 hT.lt
    have hT := hT.below hG4.below
    have hG := hG.trans hG4
    have hv4 := hv.mono hG.le
    clear b0 b1 b2 b3 b4 b5 b6 b7 C hG4 hB
    have hC := (Blk.new w4 28 (hdrC p a2 u b2')).alloc (itemO u b2'.ba b2'.bc b2'.ia b2'.ic)
    have hM := Blk.new (w4.alloc (.cells (hdrC p a2 u b2') 28)) 26 #[.int .i64 u.kind, .int .u64 u.n, .slice b2'.ba u.bytes.length b2'.bc, .slice b2'.ia u.items.length b2'.ic]
    simp only [size_alloc] at hM
    have hT4 := hT.lt
    have hnC : H4 w4.heap.size = none := hG.holds.none_of_ge (Nat.le_refl _)
    have hnM : H4 (w4.heap.size + 1) = none := hG.holds.none_of_ge (by omega)
    have hV := (hV.alloc (.cells (hdrC p a2 u b2') 28)).alloc (itemO u b2'.ba b2'.bc b2'.ia b2'.ic)
    have hT := (hT.alloc (.cells (hdrC p a2 u b2') 28)).alloc (itemO u b2'.ba b2'.bc b2'.ia b2'.ic)
    have hG := (hG.alloc (.cells (hdrC p a2 u b2') 28)).alloc (itemO u b2'.ba b2'.bc b2'.ia b2'.ic)
    go_upto_if 36 with fail
    go_cut [36] (fun s36 wx => ∃ (mI : Itm) (am : Ad), (prot = true → mI = p) ∧ (prot = false → mI = u) ∧ IsItem H4 am.ba am.bc am.ia am.ic mI ∧ Blk wx (w4.heap.size + 1) 26 #[.int .i64 mI.kind, .int .u64 mI.n, .slice am.ba mI.bytes.length am.bc, .slice am.ia mI.items.length am.ic] ∧ Blk wx w4.heap.size 28 (hdrC p a2 u b2') ∧
      Blk wx (w.heap.size + 1) 26 #[.int .i64 v.kind, .int .u64 v.n, .slice d.ba v.bytes.length d.bc, .slice d.ia v.items.length d.ic] ∧ Blk wx (w.heap.size + 1 + 1) 28 (hdrC zeroItm ⟨none, 0, none, 0⟩ zeroItm ⟨none, 0, none, 0⟩) ∧ Grows w H wx H4)
    case first =>
      cases prot with
      | true =>
        go_upto_region 9 with fail
        have c0 := hC.cell 0 rfl
        have c1 := hC.cell 1 rfl
        have c2 := hC.cell 2 rfl
        have c3 := hC.cell 3 rfl
        go_wp2_with (with_reducible refine stop_store ?_)
        unfold Stopped
        refine wpList_store_item rfl _ _ _ rfl rfl _ _ rfl rfl _ _ hM size_item rfl (one4 _ _ _ _ rfl rfl rfl rfl) fun w7 hM7 hg7 => ?_
        have hC7 := hC.grown hg7 (by intro e; injection e with e; omega)
        have hV7 := hV.grown hg7 (by intro e; injection e with e; omega)
        have hT7 := hT.grown hg7 (by intro e; injection e with e; omega)
        have hG7 := hG.grownOwn hnM (by omega) hg7
        go_wp2_with fail
        go_meet
        exact ⟨p, a2, (fun _ => rfl), (fun h => by cases h), hp4, hM7, hC7, hV7, hT7, hG7⟩
      | false =>
        go_wp2_with fail
        go_meet
        exact ⟨u, b2', (fun h => by cases h), (fun _ => rfl), hu4, hM, hC, hV, hT, hG⟩
    case rest =>
      clear hC hM hV hT hG
      obtain ⟨mI, am, hm1, hm2, hmi, hM, hC, hV, hT, hG⟩ := hcut
      have HM := Lib.hid (And.intro hm1 hm2)
      have hmil : mI.items.length ≤ 256 := by
        have h1 := (validP_items HVP.out.1).2.1
        have h2 := (validP_items HVP.out.2.1).2.1
        cases prot
        · rw [hm2 rfl]; exact h2
        · rw [hm1 rfl]; exact h1
      clear hm1 hm2
      have hr := hmi.row
      obtain ⟨PS, hPS⟩ : ∃ PS, mI.items ++ [intP n, v] = PS := ⟨_, rfl⟩
      have hPSl : PS.length = mI.items.length + 2 := by rw [← hPS]; simp
      have HPS := Lib.hid (And.intro hPS hPSl)
      clear hPS hPSl
      have hM := hM.drew
      have hC := hC.drew
      have hV := hV.drew
      have hT := hT.drew
      have hG := hG.drew
      go_upto_region 10 with fail
      go_cut [14] (fun s14 wx => ∃ (c : Int) (x : Itm) (ax : Ad) (H8 : Snap), s14 = .int .i64 c ∧ BOut PS c x ∧ IsItem H8 ax.ba ax.bc ax.ia ax.ic x ∧ H4.le H8 ∧ H8 (w.heap.size + 1 + 1) = none ∧ H8 w4.heap.size = none ∧ H8 (w4.heap.size + 1) = none ∧
        Blk wx (w4.heap.size + 1) 26 #[.int .i64 x.kind, .int .u64 x.n, .slice ax.ba x.bytes.length ax.bc, .slice ax.ia x.items.length ax.ic] ∧ Blk wx w4.heap.size 28 (hdrC p a2 u b2') ∧
        Blk wx (w.heap.size + 1 + 1) 28 (hdrC zeroItm ⟨none, 0, none, 0⟩ zeroItm ⟨none, 0, none, 0⟩) ∧ Grows w H wx H8)
      case first =>
        have hle := Snap.le.refl H4
        refine wp_region_ways 13 (fun w' => w'.cell? ⟨w.heap.size + 1, 0, none⟩ = some (.int .i64 v.kind) ∧ w'.cell? ⟨w.heap.size + 1, 1, none⟩ = some (.int .u64 v.n) ∧ w'.cell? ⟨w.heap.size + 1, 2, none⟩ = some (.slice d.ba v.bytes.length d.bc) ∧ w'.cell? ⟨w.heap.size + 1, 3, none⟩ = some (.slice d.ia v.items.length d.ic)) (by kernel_rfl) (⟨hV.cell 0 rfl, hV.cell 1 rfl, hV.cell 2 rfl, hV.cell 3 rfl⟩) (fun hHeld => ?_)
        refine Ways.take (i := 0) (v := ?_) rfl (by kernel_rfl) (fun _ _ _ h => h) (Or.inl ⟨by rfl, ?_⟩) hHeld ?_
        rotate_left
        · (intro w hSw; (try dsimp only at hSw); go_simp; try with_reducible rfl)
        try simp only [Act.put, List.getElem_toArray, List.getElem_cons_zero, List.getElem_cons_succ, List.setIfInBounds_toArray, List.set_cons_zero, List.set_cons_succ]
        refine Ways.take (i := 3) (v := ?_) rfl (by kernel_rfl) (fun _ _ _ h => h) (Or.inl ⟨by rfl, ?_⟩) hHeld ?_
        rotate_left
        · (intro w hSw; (try dsimp only at hSw); go_simp; try with_reducible rfl)
        try simp only [Act.put, List.getElem_toArray, List.getElem_cons_zero, List.getElem_cons_succ, List.setIfInBounds_toArray, List.set_cons_zero, List.set_cons_succ]
        refine Ways.take (i := 5) (v := ?_) rfl (by kernel_rfl) (fun _ _ _ h => h) (Or.inl ⟨by rfl, ?_⟩) hHeld ?_
        rotate_left
        · (intro w hSw; (try dsimp only at hSw); go_simp; try with_reducible rfl)
        try simp only [Act.put, List.getElem_toArray, List.getElem_cons_zero, List.getElem_cons_succ, List.setIfInBounds_toArray, List.set_cons_zero, List.set_cons_succ]
        refine Ways.one (i := 1) rfl (by kernel_rfl) (fun K hK => ?_)
        have m3 := hM.cell 3 rfl
        go_simp
        refine hK.out _ _ (fun _ => ?_) (fun hHeld => ?_)
        · exact ⟨hV.cell 0 rfl, hV.cell 1 rfl, hV.cell 2 rfl, hV.cell 3 rfl⟩
        clear hK K
        have hHeld := hHeld (by decide)
        try simp only [Act.put, List.getElem_toArray, List.getElem_cons_zero, List.getElem_cons_succ, List.setIfInBounds_toArray, List.set_cons_zero, List.set_cons_succ]
        refine Ways.one (i := 2) rfl (by kernel_rfl) (fun K hK => ?_)
        rw [if_pos (by rfl)]
        obtain ⟨cs, hcs, hrw⟩ := hr.src
        refine wp_app_items (.const (.slice none 0 0)) (.tmp 41) rfl (w4.heap.size + 2) (.slice none 0 0) _ [] rfl (OwnI.nil _ _ _) _ _ _ cs mI.items rfl rfl hcs (Src.of_row hrw hG.holds) (by simp; omega) (by have := hM.lt; omega) fun v5 w5 hX hg hat => ?_
        rw [List.nil_append] at hX
        have hbq := grown_none (by simpa [Value.ownBlock] using hg)
        have hnX := own_hid hG hat
        have hM := hM.below hbq
        have hC := hC.below hbq
        have hV := hV.below hbq
        have hT := hT.below hbq
        have hG := hG.below_ hbq
        try have hS6 := hS6.below hbq
        refine hK.out _ _ (fun _ => ?_) (fun hHeld => ?_)
        · exact ⟨hV.cell 0 rfl, hV.cell 1 rfl, hV.cell 2 rfl, hV.cell 3 rfl⟩
        clear hK K
        have hHeld := hHeld (by decide)
        try simp only [Act.put, List.getElem_toArray, List.getElem_cons_zero, List.getElem_cons_succ, List.setIfInBounds_toArray, List.set_cons_zero, List.set_cons_succ]
        refine Ways.one (i := 4) rfl (by kernel_rfl) (fun K hK => ?_)
        go_simp
        refine (ref_Int n HN.out.1 HN.out.2 _ hG.holds).mono ?_
        rintro e w6 ⟨v6, rfl, ja, jb, jc, jd, H6, rfl, hG6, hi6⟩
        have hr := hr.mono hG6.le
        try have hnX := fun q hq => hG6.none (hnX q hq) (hX.lt q hq).2
        try have hX := (hX.below hG6.below).mono hG6.le
        have hv4 := hv4.mono hG6.le
        have hn0 := hG6.none hn0 hT.lt
        have hnC := hG6.none hnC hC.lt
        have hnM := hG6.none hnM hM.lt
        have hM := hM.below hG6.below
        have hC := hC.below hG6.below
        have hV := hV.below hG6.below
        have hT := hT.below hG6.below
        have hle := hle.trans hG6.le
        have hG := hG.trans hG6
        refine hK.out _ _ (fun _ => ?_) (fun hHeld => ?_)
        · exact ⟨hV.cell 0 rfl, hV.cell 1 rfl, hV.cell 2 rfl, hV.cell 3 rfl⟩
        clear hK K
        have hHeld := hHeld (by decide)
        try simp only [Act.put, List.getElem_toArray, List.getElem_cons_zero, List.getElem_cons_succ, List.setIfInBounds_toArray, List.set_cons_zero, List.set_cons_succ]
        refine Ways.one (i := 6) rfl (by kernel_rfl) (fun K hK => ?_)
        go_simp
        have hS6 := below_src hG.below 26 #[.int .i64 (intP n).kind, .int .u64 (intP n).n, .slice ja (intP n).bytes.length jb, .slice jc (intP n).items.length jd, .int .i64 v.kind, .int .u64 v.n, .slice d.ba v.bytes.length d.bc, .slice d.ia v.items.length d.ic]
        try have hX := hX.alloc (.cells #[.int .i64 (intP n).kind, .int .u64 (intP n).n, .slice ja (intP n).bytes.length jb, .slice jc (intP n).items.length jd, .int .i64 v.kind, .int .u64 v.n, .slice d.ba v.bytes.length d.bc, .slice d.ia v.items.length d.ic] 26)
        have hM := hM.alloc (.cells #[.int .i64 (intP n).kind, .int .u64 (intP n).n, .slice ja (intP n).bytes.length jb, .slice jc (intP n).items.length jd, .int .i64 v.kind, .int .u64 v.n, .slice d.ba v.bytes.length d.bc, .slice d.ia v.items.length d.ic] 26)
        have hC := hC.alloc (.cells #[.int .i64 (intP n).kind, .int .u64 (intP n).n, .slice ja (intP n).bytes.length jb, .slice jc (intP n).items.length jd, .int .i64 v.kind, .int .u64 v.n, .slice d.ba v.bytes.length d.bc, .slice d.ia v.items.length d.ic] 26)
        have hV := hV.alloc (.cells #[.int .i64 (intP n).kind, .int .u64 (intP n).n, .slice ja (intP n).bytes.length jb, .slice jc (intP n).items.length jd, .int .i64 v.kind, .int .u64 v.n, .slice d.ba v.bytes.length d.bc, .slice d.ia v.items.length d.ic] 26)
        have hT := hT.alloc (.cells #[.int .i64 (intP n).kind, .int .u64 (intP n).n, .slice ja (intP n).bytes.length jb, .slice jc (intP n).items.length jd, .int .i64 v.kind, .int .u64 v.n, .slice d.ba v.bytes.length d.bc, .slice d.ia v.items.length d.ic] 26)
        have hG := hG.alloc (.cells #[.int .i64 (intP n).kind, .int .u64 (intP n).n, .slice ja (intP n).bytes.length jb, .slice jc (intP n).items.length jd, .int .i64 v.kind, .int .u64 v.n, .slice d.ba v.bytes.length d.bc, .slice d.ia v.items.length d.ic] 26)
        refine hK.out _ _ (fun _ => ?_) (fun hHeld => ?_)
        · exact ⟨hV.cell 0 rfl, hV.cell 1 rfl, hV.cell 2 rfl, hV.cell 3 rfl⟩
        clear hK K
        have hHeld := hHeld (by decide)
        try simp only [Act.put, List.getElem_toArray, List.getElem_cons_zero, List.getElem_cons_succ, List.setIfInBounds_toArray, List.set_cons_zero, List.set_cons_succ]
        refine Ways.one (i := 7) rfl (by kernel_rfl) (fun K hK => ?_)
        rw [if_pos (by rfl)]
        refine wp_app_items (.tmp 42) (.tmp 46) rfl (w4.heap.size + 2) _ _ mI.items rfl hX _ _ _ (itemC (intP n) ja jb jc jd ++ itemC v d.ba d.bc d.ia d.ic) [intP n, v] rfl rfl ((ItemsC.one hi6).app (ItemsC.one hv4)) hS6 (by simp; omega) (by have := hM.lt; omega) fun v7 w7 hX7 hg7 hat7 => ?_
        rw [HPS.out.1] at hX7
        obtain ⟨XA, xc, rfl, _⟩ := hX7.form
        have hn7 := own_hid2 hG hnX hat7
        have hM := hM.grown hg7 (fun e => by have := (hX.lt _ e).1; omega)
        have hC := hC.grown hg7 (fun e => by have := (hX.lt _ e).1; omega)
        have hV := hV.grown hg7 (fun e => by have := (hX.lt _ e).1; omega)
        have hT := hT.grown hg7 (fun e => by have := (hX.lt _ e).1; omega)
        have hG := hG.grownRow hnX (fun q hq => by have := (hX.lt q hq).1; omega) hg7
        obtain ⟨H7, hl7, hh7, hf7, hz7, hle1, hle2, hel7⟩ := hX7.snap hG.holds (fun q hq => hn7 q (own_of hq))
        have hlow : ∀ q, XA.map (·.block) = some q → w4.heap.size + 2 ≤ q := fun q hq => (hX7.lt q (own_of hq)).1
        have hkeep := fun q (hq : q < w4.heap.size + 2) h0 => snap_keep hf7 (q := q) h0 (fun e => by have := hlow q e; omega)
        have hG : Grows w H w7 H7 := ⟨hG.below, hG.le.trans hl7, hh7, fun b o hb => (hf7 b o hb).elim (hG.fresh b o) (fun e => .inr (by have := hlow b e; omega))⟩
        have hn0 := hkeep _ (by omega) hn0
        have hnC := hkeep _ (by omega) hnC
        have hnM := hkeep _ (by omega) hnM
        have hle := hle.trans hl7
        refine hK.out _ _ (fun _ => ?_) (fun hHeld => ?_)
        · exact ⟨hV.cell 0 rfl, hV.cell 1 rfl, hV.cell 2 rfl, hV.cell 3 rfl⟩
        clear hK K
        have hHeld := hHeld (by decide)
        try simp only [Act.put, List.getElem_toArray, List.getElem_cons_zero, List.getElem_cons_succ, List.setIfInBounds_toArray, List.set_cons_zero, List.set_cons_succ]
        refine Ways.one (i := 8) rfl (by kernel_rfl) (fun K hK => ?_)
        go_simp
        refine (ref_Build (hTab.mono hG.le) (IsRowI.two hle1 hle2 hel7) (by have := HPS.out.2; omega) w7 hG.holds).mono ?_
        intro e w9 hbs
        obtain ⟨v9, c, x, rfl, ⟨xa, xb, xc', xd, H9, rfl, hG9, hi9⟩, hbo⟩ := hbs.one
        have hn0 := hG9.none hn0 hT.lt
        have hnC := hG9.none hnC hC.lt
        have hnM := hG9.none hnM hM.lt
        have hM := hM.below hG9.below
        have hC := hC.below hG9.below
        have hV := hV.below hG9.below
        have hT := hT.below hG9.below
        have hle := hle.trans hG9.le
        have hG := hG.trans hG9
        refine hK.out _ _ (fun _ => ?_) (fun hHeld => ?_)
        · exact ⟨hV.cell 0 rfl, hV.cell 1 rfl, hV.cell 2 rfl, hV.cell 3 rfl⟩
        clear hK K
        have hHeld := hHeld (by decide)
        try simp only [Act.put, List.getElem_toArray, List.getElem_cons_zero, List.getElem_cons_succ, List.setIfInBounds_toArray, List.set_cons_zero, List.set_cons_succ]
        refine Ways.take (i := 9) (v := ?_) rfl (by kernel_rfl) (fun _ _ _ h => h) (Or.inl ⟨by rfl, ?_⟩) hHeld ?_
        rotate_left
        · (intro w hSw; (try dsimp only at hSw); go_simp; try with_reducible rfl)
        try simp only [Act.put, List.getElem_toArray, List.getElem_cons_zero, List.getElem_cons_succ, List.setIfInBounds_toArray, List.set_cons_zero, List.set_cons_succ]
        refine Ways.take (i := 10) (v := ?_) rfl (by kernel_rfl) (fun _ _ _ h => h) (Or.inl ⟨by rfl, ?_⟩) hHeld ?_
        rotate_left
        · (intro w hSw; (try dsimp only at hSw); go_simp; try with_reducible rfl)
        try simp only [Act.put, List.getElem_toArray, List.getElem_cons_zero, List.getElem_cons_succ, List.setIfInBounds_toArray, List.set_cons_zero, List.set_cons_succ]
        refine Ways.take (i := 11) (v := ?_) rfl (by kernel_rfl) (fun _ _ _ h => h) (Or.inl ⟨by rfl, ?_⟩) hHeld ?_
        rotate_left
        · (intro w hSw; (try dsimp only at hSw); go_simp; try with_reducible rfl)
        try simp only [Act.put, List.getElem_toArray, List.getElem_cons_zero, List.getElem_cons_succ, List.setIfInBounds_toArray, List.set_cons_zero, List.set_cons_succ]
        refine Ways.one (i := 12) rfl (by kernel_rfl) (fun K hK => ?_)
        rw [if_pos (by rfl)]
        refine wp_store_item _ _ _ rfl _ _ rfl rfl _ _ hM size_item rfl (one4 _ _ _ _ rfl rfl rfl rfl) fun w12 hM hg12 => ?_
        have hC := hC.grown hg12 (by intro e; injection e with e; omega)
        have hV := hV.grown hg12 (by intro e; injection e with e; omega)
        have hT := hT.grown hg12 (by intro e; injection e with e; omega)
        have hG := hG.grownOwn hnM (by omega) hg12
        refine hK.out _ _ (fun _ => ?_) (fun hHeld => ?_)
        · exact ⟨hV.cell 0 rfl, hV.cell 1 rfl, hV.cell 2 rfl, hV.cell 3 rfl⟩
        clear hK K
        have hHeld := hHeld (by decide)
        try simp only [Act.put, List.getElem_toArray, List.getElem_cons_zero, List.getElem_cons_succ, List.setIfInBounds_toArray, List.set_cons_zero, List.set_cons_succ]
        refine Ways.one (i := 13) rfl (by kernel_rfl) (fun K hK => ?_)
        go_simp
        refine hK.out _ _ (fun h => absurd rfl h) (fun _ => ?_)
        clear hK K
        try simp only [Act.put, List.getElem_toArray, List.getElem_cons_zero, List.getElem_cons_succ, List.setIfInBounds_toArray, List.set_cons_zero, List.set_cons_succ]
        refine Ways.done (by kernel_rfl) ?_
        go_wp2_with fail
        go_meet
        exact ⟨c, x, ⟨xa, xb, xc', xd⟩, _, rfl, hbo, hi9, hle, hn0, hnC, hnM, hM, hC, hT, hG⟩
      case rest =>
        clear hM hC hV hT hG hr hv4
        obtain ⟨c, x, ax, H8, rfl, hbo, hx8, hle8, hn0, hnC, hnM, hM, hC, hT, hG⟩ := hcut
        have HEM := Lib.hid (show p = emptyM → u = emptyM → mI = emptyM from fun h1 h2 => by
          cases prot
          · rw [HM.out.2 rfl, h2]
          · rw [HM.out.1 rfl, h1])
        have HPE := Lib.hid (show p = emptyM → u = emptyM → n = 1 → v = intP 10 → PS = [.mk 0 1 [] [], .mk 0 10 [] []] from fun h1 h2 h3 h4 => by
          rw [← HPS.out.1, HEM.out h1 h2, h3, h4, intP_1, intP_10]
          rfl)
        rcases hbo with ⟨rfl, l, hxl, hvx, hsz, h2⟩ | ⟨hc, hxz, hno⟩
        · have HX := Lib.hid (And.intro (show szL x ≤ szL mI + 9 + (encB v).length by rw [hxl]; exact szL_put mI n v (by rw [HPS.out.1]; exact hsz)) (show p = emptyM → u = emptyM → n = 1 → v = intP 10 → x = algM from fun h1 h2' h3 h4 => by
            have he := HPE.out h1 h2' h3 h4
            rw [hxl, h2 (by rw [he]; rfl), he]))
          clear hxl hvx hsz h2
          cases prot with
          | true =>
            have HXP := Lib.hid (show szL x ≤ szL p + 9 + (encB v).length by have h1 := HX.out.1; rw [HM.out.1 rfl] at h1; exact h1)
            have m0 := hM.cell 0 rfl
            have m1 := hM.cell 1 rfl
            have m2 := hM.cell 2 rfl
            have m3 := hM.cell 3 rfl
            go_wp2_with (with_reducible refine stop_store ?_)
            unfold Stopped
            refine wpList_store_blk rfl _ _ _ rfl rfl w4.heap.size 0 _ rfl rfl _ _ hC size_item (by simp) (one4 _ _ _ _ rfl rfl rfl rfl) fun w13 hC13 hg13 => ?_
            have hC13 : Blk w13 w4.heap.size 28 (hdrC x ax u b2') := hC13
            have hT13 := hT.grown hg13 (by intro e; injection e with e; omega)
            have hG13 := hG.grownOwn hnC (by omega) hg13
            have V2 := Lib.hid (ref12_ValidH (hTab.mono hG13.le) hx8 (hu4.mono hle8) w13 hG13.holds)
            have k0 := hC13.cell 0 rfl
            have k1 := hC13.cell 1 rfl
            have k2 := hC13.cell 2 rfl
            have k3 := hC13.cell 3 rfl
            have k4 := hC13.cell 4 rfl
            have k5 := hC13.cell 5 rfl
            have k6 := hC13.cell 6 rfl
            have k7 := hC13.cell 7 rfl
            clear hC hT hG hM m0 m1 m2 m3 hg13
            cases hv2 : validH x u with
            | false =>
              rw [hv2] at V2
              have HV2 := Lib.hid hv2
              clear hv2
              go_wp2_with fail
              refine V2.out.mono ?_
              rintro e w14 ⟨rfl, hb14⟩
              have hT14 := hT13.below hb14
              have hG14 := hG13.below_ hb14
              clear hC13 hT13 hG13 hb14 V2 k0 k1 k2 k3 k4 k5 k6 k7
              go_wp2_with (with_reducible refine stop_store ?_)
              unfold Stopped
              refine wpList_store_item rfl _ _ _ rfl rfl _ _ rfl rfl _ _ hT14 size_hdr rfl (by kernel_rfl) fun wz hTz hgz => ?_
              have hGz := hG14.grownOwn hn0 (by omega) hgz
              go_wp2_with fail
              refine ret_row_tmp rfl rfl hTz rfl rfl size_hdr rfl ?_
              exact ⟨zeroItm, zeroItm, _, 4, rfl, ⟨⟨none, 0, none, 0⟩, ⟨none, 0, none, 0⟩, _, rfl, hGz, IsItem.plain _ 0 0 (by omega) (by omega), IsItem.plain _ 0 0 (by omega) (by omega)⟩, (fun h => by cases h), modest_zero, modest_zero, fun h1 h2 h3 h4 => by exact absurd HV2.out (by rw [HX.out.2 h1 h2 h3 h4, h2, alg_valid1]; simp)⟩
            | true =>
              rw [hv2] at V2
              have HV2 := Lib.hid hv2
              clear hv2
              go_wp2_with fail
              refine V2.out.mono ?_
              rintro e w14 ⟨rfl, hb14⟩
              have hT14 := hT13.below hb14
              have hG14 := hG13.below_ hb14
              have hC14 := hC13.below hb14
              clear hC13 hT13 hG13 hb14 V2 k0 k1 k2 k3 k4 k5 k6 k7
              have k0 := hC14.cell 0 rfl
              have k1 := hC14.cell 1 rfl
              have k2 := hC14.cell 2 rfl
              have k3 := hC14.cell 3 rfl
              have k4 := hC14.cell 4 rfl
              have k5 := hC14.cell 5 rfl
              have k6 := hC14.cell 6 rfl
              have k7 := hC14.cell 7 rfl
              go_wp2_with (with_reducible refine stop_store ?_)
              unfold Stopped
              refine wpList_store_item rfl _ _ _ rfl rfl _ _ rfl rfl _ _ hT14 size_hdr rfl (by kernel_rfl) fun wz hTz hgz => ?_
              have hGz := hG14.grownOwn hn0 (by omega) hgz
              go_wp2_with fail
              refine ret_row_tmp rfl rfl hTz rfl rfl size_hdr rfl ?_
              have vv := validH_valid HV2.out
              exact ⟨x, u, _, 0, rfl, ⟨ax, b2', H8, rfl, hGz, hx8, (hu4.mono hle8)⟩, fun _ => ⟨HV2.out, HXP.out, by omega⟩, validP_modest vv.1, validP_modest vv.2.1, fun _ _ _ _ => rfl⟩
          | false =>
            have HXP := Lib.hid (show szL x ≤ szL u + 9 + (encB v).length by have h1 := HX.out.1; rw [HM.out.2 rfl] at h1; exact h1)
            have m0 := hM.cell 0 rfl
            have m1 := hM.cell 1 rfl
            have m2 := hM.cell 2 rfl
            have m3 := hM.cell 3 rfl
            go_wp2_with (with_reducible refine stop_store ?_)
            unfold Stopped
            refine wpList_store_blk rfl _ _ _ rfl rfl w4.heap.size 4 _ rfl rfl _ _ hC size_item (by simp) (one4 _ _ _ _ rfl rfl rfl rfl) fun w13 hC13 hg13 => ?_
            have hC13 : Blk w13 w4.heap.size 28 (hdrC p a2 x ax) := hC13
            have hT13 := hT.grown hg13 (by intro e; injection e with e; omega)
            have hG13 := hG.grownOwn hnC (by omega) hg13
            have V2 := Lib.hid (ref12_ValidH (hTab.mono hG13.le) (hp4.mono hle8) hx8 w13 hG13.holds)
            have k0 := hC13.cell 0 rfl
            have k1 := hC13.cell 1 rfl
            have k2 := hC13.cell 2 rfl
            have k3 := hC13.cell 3 rfl
            have k4 := hC13.cell 4 rfl
            have k5 := hC13.cell 5 rfl
            have k6 := hC13.cell 6 rfl
            have k7 := hC13.cell 7 rfl
            clear hC hT hG hM m0 m1 m2 m3 hg13
            cases hv2 : validH p x with
            | false =>
              rw [hv2] at V2
              have HV2 := Lib.hid hv2
              clear hv2
              go_wp2_with fail
              refine V2.out.mono ?_
              rintro e w14 ⟨rfl, hb14⟩
              have hT14 := hT13.below hb14
              have hG14 := hG13.below_ hb14
              clear hC13 hT13 hG13 hb14 V2 k0 k1 k2 k3 k4 k5 k6 k7
              go_wp2_with (with_reducible refine stop_store ?_)
              unfold Stopped
              refine wpList_store_item rfl _ _ _ rfl rfl _ _ rfl rfl _ _ hT14 size_hdr rfl (by kernel_rfl) fun wz hTz hgz => ?_
              have hGz := hG14.grownOwn hn0 (by omega) hgz
              go_wp2_with fail
              refine ret_row_tmp rfl rfl hTz rfl rfl size_hdr rfl ?_
              exact ⟨zeroItm, zeroItm, _, 4, rfl, ⟨⟨none, 0, none, 0⟩, ⟨none, 0, none, 0⟩, _, rfl, hGz, IsItem.plain _ 0 0 (by omega) (by omega), IsItem.plain _ 0 0 (by omega) (by omega)⟩, (fun h => by cases h), modest_zero, modest_zero, fun h1 h2 h3 h4 => by exact absurd HV2.out (by rw [HX.out.2 h1 h2 h3 h4, h1, alg_valid2]; simp)⟩
            | true =>
              rw [hv2] at V2
              have HV2 := Lib.hid hv2
              clear hv2
              go_wp2_with fail
              refine V2.out.mono ?_
              rintro e w14 ⟨rfl, hb14⟩
              have hT14 := hT13.below hb14
              have hG14 := hG13.below_ hb14
              have hC14 := hC13.below hb14
              clear hC13 hT13 hG13 hb14 V2 k0 k1 k2 k3 k4 k5 k6 k7
              have k0 := hC14.cell 0 rfl
              have k1 := hC14.cell 1 rfl
              have k2 := hC14.cell 2 rfl
              have k3 := hC14.cell 3 rfl
              have k4 := hC14.cell 4 rfl
              have k5 := hC14.cell 5 rfl
              have k6 := hC14.cell 6 rfl
              have k7 := hC14.cell 7 rfl
              go_wp2_with (with_reducible refine stop_store ?_)
              unfold Stopped
              refine wpList_store_item rfl _ _ _ rfl rfl _ _ rfl rfl _ _ hT14 size_hdr rfl (by kernel_rfl) fun wz hTz hgz => ?_
              have hGz := hG14.grownOwn hn0 (by omega) hgz
              go_wp2_with fail
              refine ret_row_tmp rfl rfl hTz rfl rfl size_hdr rfl ?_
              have vv := validH_valid HV2.out
              exact ⟨p, x, _, 0, rfl, ⟨a2, ax, H8, rfl, hGz, (hp4.mono hle8), hx8⟩, fun _ => ⟨HV2.out, by omega, HXP.out⟩, validP_modest vv.1, validP_modest vv.2.1, fun _ _ _ _ => rfl⟩
        · have b1 : (c != 0) = true := by simp [hc]
          have p1 : (c = 0) = False := eq_false hc
          have HNO := Lib.hid hno
          clear hc hno hxz
          go_wp2_with (with_reducible refine stop_store ?_)
          unfold Stopped
          refine wpList_store_item rfl _ _ _ rfl rfl _ _ rfl rfl _ _ hT size_hdr rfl (by kernel_rfl) fun wz hTz hgz => ?_
          have hGz := hG.grownOwn hn0 (by omega) hgz
          go_wp2_with fail
          refine ret_row_tmp rfl rfl hTz rfl rfl size_hdr rfl ?_
          exact ⟨zeroItm, zeroItm, _, 4, rfl, ⟨⟨none, 0, none, 0⟩, ⟨none, 0, none, 0⟩, _, rfl, hGz, IsItem.plain _ 0 0 (by omega) (by omega), IsItem.plain _ 0 0 (by omega) (by omega)⟩, (fun h => by cases h), modest_zero, modest_zero, fun h1 h2 h3 h4 => by have he := HPE.out h1 h2 h3 h4; exact (HNO.out ⟨by rw [he]; rfl, by rw [he]; intro y hy; simp at hy; rcases hy with rfl | rfl; exact (by have := validP_int 1; rw [intP_nat] at this; exact this); exact (by have := validP_int 10; rw [intP_nat] at this; exact this), by rw [he]; exact alg_validP⟩).elim⟩
end Go.Proofs.YtdbhgngikglmcaaDoor
