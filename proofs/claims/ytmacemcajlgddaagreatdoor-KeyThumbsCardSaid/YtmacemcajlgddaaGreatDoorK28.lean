/- squeezed. Walks: the program's Build, of pai -/
import Derived.Test.YtmacemcajlgddaaGreatDoorK27
import Derived.Test.YtmacemcajlgddaaGreatDoorK19
set_option linter.unusedVariables false
set_option linter.unusedSimpArgs false
set_option maxRecDepth 100000
set_option maxHeartbeats 25600000
namespace Go.Proofs.YtmacemcajlgddaaGreatDoor
open Go.RowKit
theorem pe_list {H : Snap} : ∀ {l : List Pr} {cs : List Value}, RowC lieP H cs l → ∃ ds : List (PE H), ds.length = l.length ∧ ds.map (·.key) = l.map (·.1) ∧ cs = ds.flatMap encPE
 | [], cs, h => ⟨[], rfl, rfl, by rw [RowC] at h; exact h⟩
 | x :: l, cs, h => by
  obtain ⟨c, rest, rfl, ⟨A, cc, ba, bc, ia, ic, ba', bc', ia', ic', rfl, hk, hy, hz⟩, hr⟩ := h;obtain ⟨ds, h1, h2, h3⟩ := pe_list hr
  refine ⟨⟨A, cc, x.1, itemC x.2.1 ba bc ia ic ++ itemC x.2.2 ba' bc' ia' ic', rfl, by simp [itemC, Value.oneCell'], hk⟩ :: ds, by simp [h1], by simp [h2], ?_⟩
  rw [List.flatMap_cons, ← h3];rfl
theorem flat_get {H : Snap} : ∀ (ds : List (PE H)) (t : Nat), t < ds.length * 9 → (ds.flatMap encPE)[t]? = some ((encPE ds[t / 9]!)[t % 9]!)
 | [], t, h => by simp at h
 | x :: ds, t, h => by
  rw [List.flatMap_cons];have hx := encPE_len x
  by_cases h9 : t < 9
  ·rw [List.getElem?_append_left (by omega), Nat.div_eq_of_lt h9, Nat.mod_eq_of_lt h9]
   simp only [List.getElem!_cons_zero]
   rw [List.getElem!_eq_getElem?_getD, List.getElem?_eq_getElem (by omega)];rfl
  ·rw [List.getElem?_append_right (by omega), hx, flat_get ds (t - 9) (by simp only [List.length_cons] at h; omega)];have e1 : t / 9 = (t - 9) / 9 + 1 := by omega
   have e2 : t % 9 = (t - 9) % 9 := by omega
   rw [e1, e2];rfl
theorem own_holdsK {H : Snap} {w : World} {base m c : Nat} {A : Option Addr} {l : List Pr} (h : OwnX lieP 84 w base (.slice A m c) H l) (h0 : 0 < l.length) :
  ∃ (g : Nat) (d : Array (PE H)), A = some ⟨g, 0, none⟩ ∧ base ≤ g ∧ g < w.heap.size ∧ d.size = l.length ∧ (∀ j (hj : j < l.length), d[j]!.key = l[j].1) ∧ Go.Sort.HoldsK encPE 9 w g 0 d := by
 obtain ⟨cs, hcs, h⟩ := h
 rcases h.2 with ⟨hv, hz⟩ | ⟨g, cap, cur, hv, hb, hg, hc, hm, hcz, ht⟩
 ·omega
 ·cases hv
  obtain ⟨ds, h1, h2, h3⟩ := pe_list hcs
  refine ⟨g, ds.toArray, rfl, hb, (Array.getElem?_eq_some_iff.1 hg).1, by simpa using h1, fun j hj => ?_, fun t ht' => ?_⟩
  ·have e : (ds.map (·.key))[j]? = (l.map (·.1))[j]? := by rw [h2]
   rw [List.getElem?_map, List.getElem?_map, List.getElem?_eq_getElem hj, List.getElem?_eq_getElem (by omega : j < ds.length)] at e;have e' : ds[j].key = l[j].1 := Option.some.inj e;rw [← e', getElem!_pos ds.toArray j (by simpa using (by omega : j < ds.length))]
   simp
  ·rw [Go.Sort.size_flatK, List.size_toArray] at ht';rw [Go.Sort.get_flatK _ _ _ _ (by simpa using ht')];have hf := flat_get ds t ht';rw [← h3, ← ht, List.getElem?_take] at hf
   split at hf
   ·have e3 : (ds.toArray)[t / 9]! = ds[t / 9]! := by simp
    refine ⟨?_, by simp [World.frozen?, hg]⟩
    rw [Nat.zero_add];have hcell := cell_of_row w g t cur 84 (0, 0) hg;rw [hcell, e3]
    simpa using hf
   ·cases hf
theorem m0b {w w' : World} {p : Addr} {v : Value} (hb : Below w.heap.size w w') (h : w.cell? p = some v) : w'.cell? p = some v := cell_below h hb
def BuiltOut (w : World) (H : Snap) (ps : List Itm) (e : Ending) (w' : World) : Prop := ∃ v, e = .returned (.tuple #[v, .int .i64 0]) ∧ Gives w H (.mk 5 0 [] ps) v w'
theorem cbor_Build {H : Snap} (hTab : Tabs H) {A : Option Addr} {c : Nat} {ps : List Itm} (hr : IsRowI H A c ps) (heven : ps.length % 2 = 0) (h4 : 4 ≤ ps.length) (h24 : ps.length ≤ 24) (hasc : ascP ps = true)
  (hval : ∀ x ∈ ps, validP x = true) (hwh : validP (.mk 5 0 [] ps) = true) (w : World) (hH : Holds w H) :
  Calls Tryz.prog 38 #[.slice A ps.length c] w (BuiltOut w H ps) := by
 have hT := Blk.new w 54 zeroC;have hb := below_box w zeroO;have hn0 : H w.heap.size = none := hH.none_of_ge (Nat.le_refl _);have b1 : ((ps.length : Int) % 2 == 1) = false := by rw [beq_eq_false_iff_ne]; omega
 have p1 : ((ps.length : Int) % 2 = 1) = False := eq_false (by omega);have HR := Hh hr;have HC := Hh (And.intro heven (And.intro h4 h24));have HA := Hh (And.intro hasc (And.intro hval hwh));clear heven h4 h24 hasc hval hwh hr;go_enter Tryz.func38, Tryz.ntmps38
 go_wp2_with fail
 go_loopw [18] (fun v18 wr => ∃ j : Nat, j ≤ ps.length ∧ v18 = .int .i64 j ∧ Below w.heap.size w wr ∧ Blk wr w.heap.size 54 zeroC) (fun v18 _ => ps.length - (intOf v18).toNat)
 case atStart => exact ⟨0, Nat.zero_le _, rfl, hb, hT⟩
 case round =>
  clear hb hT b1 p1;obtain ⟨j, hj, rfl, hbr, hTr⟩ := hrel
  by_cases hlt : j < ps.length
  ·have hHr := hH.below hbr (Nat.le_refl _);obtain ⟨ib, io, hia, hel⟩ := HR.out.elems (by omega);obtain ⟨y1, y2, y3, y4, q0, q1, q2, q3, hex⟩ := hel.get j hlt;subst hia;have p0 := hHr.cell q0;have p1' := hHr.cell q1;have p2 := hHr.cell q2;have p3 := hHr.cell q3;have hHa := hHr.alloc (itemO ps[j] y1 y2 y3 y4);have V := Hh (cbor_Valid hTab hex.arg _ hHa);rw [HA.out.2.1 _ (List.getElem_mem hlt)] at V;have hb2 := hbr.alloc hbr.size (itemO ps[j] y1 y2 y3 y4);have hT2 := hTr.alloc (itemO ps[j] y1 y2 y3 y4)
   generalize ps[j]'hlt = x at *
   clear q0 q1 q2 q3 hel hex hbr hTr hHr hHa;go_wp2_with fail
   refine V.out.mono ?_
   rintro e w3 ⟨rfl, hb3⟩
   have hT3 := hT2.below hb3;have hbz := hb2.trans (hb3.mono hb2.size);have hj63 : (j : Int) + 1 ≤ 9223372036854775807 := by have := HC.out.2.2; omega
   clear hT2 hb2 hb3;go_wp2_with fail
   go_roundw
   case rel => exact ⟨j + 1, by omega, by go_num, hbz, hT3⟩
   case measure => simp [intOf]; omega
  ·have hkl : j = ps.length := by omega
   subst hkl;clear hlt hj;obtain ⟨n, hn⟩ : ∃ n, ps.length = 2 * n := ⟨ps.length / 2, by have := HC.out.1; omega⟩
   have hq : ((ps.length : Int) / 2) = (n : Int) := by omega
   have hqt : (ps.length : Int).tdiv 2 = (n : Int) := by rw [Int.tdiv_eq_ediv_of_nonneg (by omega)]; omega
   have HN := Hh hn;have hn12 : n ≤ 12 := by have := HC.out.2.2; omega
   have hG := Grows.of_below hH hbr;obtain ⟨i0, hi0, hz0, hz1, hz2⟩ := info_parts info_bpair;clear hn hbr;go_wp2_with (at_make; refine stop_in ?_)
   refine wpList_make_own wr rfl _ _ 82 rfl (w.heap.size + 1) 84 i0 _ 9 Tryz.underlying82 hi0 hz0 hz1 .i64 .i64 (n : Int) n rfl rfl rfl (by rw [hz2]; omega) (by simp only [maxLen]; omega) (by have := hTr.lt; omega) fun w4 hown4 hg4 => ?_
   have hG4 := hG.below_ (grown_none hg4);have hX := XM.start (bt := 82) (bv := .slice none 0 0) hG4 hn0 (hTr.grown hg4 (by simp)) (show OwnX lieP 84 w4 (w.heap.size + 1) (.slice (some ⟨wr.heap.size, 0, none⟩) 0 n) H [] from ⟨[], RowC.nil _ _, hown4⟩) (fun g hg => by simp [Value.ownBlock] at hg; subst hg; exact hG.hidden (Nat.le_refl _));obtain ⟨B, hB⟩ : ∃ B, w4.heap.size = B := ⟨_, rfl⟩
   obtain ⟨g0, hg0⟩ : ∃ g0, wr.heap.size = g0 := ⟨_, rfl⟩
   rw [hB] at hX;rw [hg0] at hX ⊢;clear hown4 hg4 hG4 hG hTr hi0 hz0 hz1 hz2 hg0;go_wp2_with (with_reducible refine stop_store ?_)
   unfold Stopped
   try rw [hB]
   refine wpList_store_cell rfl _ _ _ rfl rfl B 0 (.slice (some ⟨g0, 0, none⟩) 0 n) rfl rfl _ _ hX.box size_bpairs (by simp) rfl fun w5 hB5 hg5 => ?_
   replace hX := hX.setBox (by simpa using hB5) hg5;clear hB5 hg5 hB hq hqt;go_wp2_with fail
   go_loopw [7] (fun v7 wx => ∃ (j : Nat) (Hx : Snap) (VA : Option Addr) (m vc : Nat), j ≤ ps.length ∧ j % 2 = 0 ∧ v7 = .int .i64 (j : Int) ∧ m = j / 2 ∧ XM lieP 84 82 54 w H B zeroC (.slice VA m vc) (.slice VA m vc) (pk (ps.take j)) wx Hx) (fun v7 _ => ps.length - (intOf v7).toNat)
   case atStart => exact ⟨0, H, some ⟨g0, 0, none⟩, 0, n, Nat.zero_le _, rfl, rfl, rfl, by simpa [pk] using hX⟩
   case round =>
    clear hX;obtain ⟨j, Hx, VA, m, vc, hj, hje, rfl, hm, hX⟩ := hrel;have HJ := Hh (And.intro hje hm);clear hje hm
    by_cases hlt : j < ps.length
    ·have hlt1 : j + 1 < ps.length := by have := HJ.out.1; have := HC.out.1; omega
     have hltI : (j : Int) < ps.length := by omega
     have hltI1 : (j : Int) + 1 < ps.length := by omega
     have hj63 : (j : Int) + 2 ≤ 9223372036854775807 := by have := HC.out.2.2; omega
     have HW1 : IntKind.i64.wrap ((j : Int) + 1) = (j : Int) + 1 := IntWalk.i64_in _ (by omega);have hj10 : (0 : Int) ≤ (j : Int) + 1 := by omega
     obtain ⟨ib, io, hia, hel⟩ := HR.out.elems (by omega);obtain ⟨y1, y2, y3, y4, q0, q1, q2, q3, hey⟩ := hel.get j hlt;obtain ⟨z1, z2, z3, z4, s0, s1, s2, s3, hez⟩ := hel.get (j + 1) hlt1;subst hia;have HV := Hh (validP_spec (HA.out.2.1 _ (List.getElem_mem hlt)))
     have HPK : Hid (pk (ps.take (j + 2)) = pk (ps.take j) ++ [(encB ps[j], ps[j], ps[j + 1])]) := by
      obtain ⟨i, rfl⟩ : ∃ i, j = 2 * i := ⟨j / 2, by have := HJ.out.1; omega⟩
      exact pk_take ps i hlt1
     have HPL : Hid ((pk (ps.take j)).length = m) := by rw [Hid, pk_len, List.length_take]; have := HJ.out; omega
     have hle := hX.grows.le;have q0 := hle.cell q0;have q1 := hle.cell q1;have q2 := hle.cell q2;have q3 := hle.cell q3;have s0 := hle.cell s0;have s1 := hle.cell s1;have s2 := hle.cell s2;have s3 := hle.cell s3;have hey := hey.mono hle;have hez := hez.mono hle
     generalize ps[j]'hlt = y at *
     generalize ps[j + 1]'hlt1 = z at *
     generalize pk (ps.take j) = L at hX HPK HPL
     clear hel hle hj;go_upto_region 13 with fail
     replace hX := hX.drew;have hyz := Hh (And.intro hey hez);clear hey hez
     refine wp_region_waysZ 17 (fun wx => wx.cell? ⟨B, 0, none⟩ = some (.slice VA m vc) ∧ wx.cell? ⟨ib, io + j * 4, none⟩ = some (.int .i64 y.kind) ∧ wx.cell? ⟨ib, io + j * 4 + 1, none⟩ = some (.int .u64 y.n) ∧ wx.cell? ⟨ib, io + j * 4 + 2, none⟩ = some (.slice y1 y.bytes.length y2) ∧ wx.cell? ⟨ib, io + j * 4 + 3, none⟩ = some (.slice y3 y.items.length y4) ∧ wx.cell? ⟨ib, io + (j + 1) * 4, none⟩ = some (.int .i64 z.kind) ∧ wx.cell? ⟨ib, io + (j + 1) * 4 + 1, none⟩ = some (.int .u64 z.n) ∧ wx.cell? ⟨ib, io + (j + 1) * 4 + 2, none⟩ = some (.slice z1 z.bytes.length z2) ∧ wx.cell? ⟨ib, io + (j + 1) * 4 + 3, none⟩ = some (.slice z3 z.items.length z4)) (by kernel_rfl) (⟨hX.box.cell 0 rfl, hX.grows.holds.cell q0, hX.grows.holds.cell q1, hX.grows.holds.cell q2, hX.grows.holds.cell q3, hX.grows.holds.cell s0, hX.grows.holds.cell s1, hX.grows.holds.cell s2, hX.grows.holds.cell s3⟩) (fun hHeld => ?_)
     refine Zk 0 rfl hHeld ?_
     refine Zk 1 rfl hHeld ?_
     refine Zk 2 rfl hHeld ?_
     refine Zk 3 rfl hHeld ?_
     refine Zk 4 rfl hHeld ?_
     refine Zk 6 rfl hHeld ?_
     refine Zk 7 rfl hHeld ?_
     refine Zk 8 rfl hHeld ?_
     refine Zk 9 rfl hHeld ?_
     refine Zk 10 rfl hHeld ?_
     refine Zk 11 rfl hHeld ?_
     refine Zk 12 rfl hHeld ?_
     refine Zk 13 rfl hHeld ?_
     refine Zk 14 rfl hHeld ?_
     refine Zo 5 rfl fun K hK => ?_
     go_simp
     refine (cbor_add y Hx _ _ _ _ _ _ _ _ _ _ (.slice none 0 0) [] HV.out.1 hyz.out.1.arg hX.grows.holds (OwnB.nil _ _) (Nat.le_refl _) (by simp [Value.ownBlock]) (by have := HV.out.2.2; simp; omega)).mono ?_
     rintro e w5 ⟨r5, rfl, hO5, hg5, _⟩
     obtain ⟨A5, c5, rfl, _⟩ := OwnB.form hO5;obtain ⟨H5, hG5, hk5, _⟩ := Fresh.snapB hX.grows.holds ⟨hO5, grown_none hg5⟩;have hX := hX.grow hG5;have q0 := hG5.le.cell q0;have q1 := hG5.le.cell q1;have q2 := hG5.le.cell q2;have q3 := hG5.le.cell q3;have s0 := hG5.le.cell s0;have s1 := hG5.le.cell s1;have s2 := hG5.le.cell s2;have s3 := hG5.le.cell s3
     refine hK.out _ _ (fun _ => ?_) (fun hHeld => ?_)
     ·exact ⟨hX.box.cell 0 rfl, hX.grows.holds.cell q0, hX.grows.holds.cell q1, hX.grows.holds.cell q2, hX.grows.holds.cell q3, hX.grows.holds.cell s0, hX.grows.holds.cell s1, hX.grows.holds.cell s2, hX.grows.holds.cell s3⟩
     clear hK K;have hHeld := hHeld (by decide)
     try simp only [Act.put, zz1, zz2, zz3, zz4, zz5, zz6]
     refine Zk 15 rfl hHeld ?_
     refine Zo 16 rfl fun K hK => ?_
     go_simp
     have hRow : RowC lieP H5 (.slice A5 (encB y).length c5 :: (itemC y y1 y2 y3 y4 ++ itemC z z1 z2 z3 z4)) [(encB y, y, z)] := RowC.one ⟨A5, c5, y1, y2, y3, y4, z1, z2, z3, z4, rfl, hk5, hyz.out.1.mono hG5.le, hyz.out.2.mono hG5.le⟩;have hZ := hX.litZ (.slice A5 (encB y).length c5 :: (itemC y y1 y2 y3 y4 ++ itemC z z1 z2 z3 z4)).toArray 84;have hX := hX.alloc (.cells (.slice A5 (encB y).length c5 :: (itemC y y1 y2 y3 y4 ++ itemC z z1 z2 z3 z4)).toArray 84)
     refine hK.out _ _ (fun _ => ?_) (fun hHeld => ?_)
     ·exact ⟨hX.box.cell 0 rfl, hX.grows.holds.cell q0, hX.grows.holds.cell q1, hX.grows.holds.cell q2, hX.grows.holds.cell q3, hX.grows.holds.cell s0, hX.grows.holds.cell s1, hX.grows.holds.cell s2, hX.grows.holds.cell s3⟩
     clear hK K;have hHeld := hHeld (by decide)
     try simp only [Act.put, zz1, zz2, zz3, zz4, zz5, zz6]
     refine Zo 17 rfl fun K hK => ?_
     rw [if_pos (by rfl)]
     refine OwnX.append_wp2 (L := lieP) _ _ 82 rfl Tryz.underlying82 rfl (by omega) info_bpair rfl hX.own _ _ _ _ [(encB y, y, z)] rfl rfl hRow hZ (by have := HPL.out; have := HJ.out.2; have := HC.out.2.2; simp; omega) hX.base fun v7 w7 hO7 hg7 ha7 => ?_
     have hX := hX.app hO7 hg7 ha7;obtain ⟨A7, c7, rfl, _⟩ := hO7.form;rw [show (L ++ [(encB y, y, z)]).length = m + 1 by have := HPL.out; simp; omega] at hX ⊢;clear hO7 hg7 ha7 hZ hRow
     refine hK.out _ _ (fun h => absurd h (by decide)) (fun _ => ?_)
     clear hK K
     try simp only [Act.put, zz1, zz2, zz3, zz4, zz5, zz6]
     refine Zo 18 rfl fun K hK => ?_
     rw [if_pos (by rfl)]
     refine wp_store_cell _ _ _ rfl B 0 (.slice A7 (m + 1) c7) rfl rfl _ _ hX.box size_bpairs (by simp) rfl fun w8 hB8 hg8 => ?_
     have hX := hX.setBox (by simpa using hB8) hg8;clear hB8 hg8
     refine hK.out _ _ (fun h => absurd h (by decide)) (fun _ => ?_)
     clear hK K
     try simp only [Act.put, zz1, zz2, zz3, zz4, zz5, zz6]
     refine WaysZ.done (by kernel_rfl) ?_
     clear hHeld q0 q1 q2 q3 s0 s1 s2 s3 hG5 hk5;go_wp2_with fail
     go_roundw
     case rel => exact ⟨j + 2, H5, A7, m + 1, c7, by omega, by have := HJ.out.1; omega, by go_num, by have := HJ.out; omega, by rw [HPK.out]; exact hX⟩
     case measure => simp [intOf]; omega
    ·have hkl : j = ps.length := by omega
     subst hkl;clear hlt hj;rw [List.take_length] at hX;have hpl : (pk ps).length = n := by rw [pk_len, HN.out]; omega
     obtain rfl : m = n := by have := HJ.out.2; have := HN.out; omega
     obtain ⟨g, d, hVA, hgb, hgl, hds, hdk, hHK⟩ := own_holdsK hX.own (by have := HC.out; have := HN.out; omega);subst hVA;have hdm : d.size = m := by rw [hds, hpl]
     have hasc : ∀ j, j + 1 < d.size → Lib.compareBytes d[j]!.key d[j + 1]!.key < 0 := fun j hj => by
      rw [hdk j (by omega), hdk (j + 1) (by omega)];have e1 := pk_get ps j (by have := HN.out; omega);have e2 := pk_get ps (j + 1) (by have := HN.out; omega);rw [List.getElem?_eq_getElem (by omega)] at e1 e2;rw [Option.some.inj e1, Option.some.inj e2];have h3 := asc_at (m := 2 * j) HA.out.1 (by omega) (by have := HN.out; omega)
      exact h3
     have SRT := sort_pairs d hasc (by have := HC.out; have := HN.out; omega) (by omega) g 0 vc B _ hX.grows.holds (hX.apart g (by simp [Value.ownBlock])) hHK hgl (by rw [hdm]; exact hX.box.cell 0 rfl) (fun e => hX.far (by simp [Value.ownBlock, e])) hX.box.lt;rw [hdm] at SRT;have SRTH := Hh SRT;have c0 := hX.box.cell 0 rfl;have HPL := Hh hpl;clear SRT hasc hHK hdk hds hdm hgl hgb hpl;go_wp2_with fail
     refine SRTH.out.mono ?_
     rintro e w9 ⟨rfl, hb9⟩
     replace hX := hX.below hb9;obtain ⟨H9, hG9, hle9, hmm9, hrow9, hK9, hB9⟩ := hX.snap;clear hmm9;have hbox := hX.box;have hkey := hX.key;have hlt9 := hX.lt;clear hX hb9 SRTH c0 hle9;have hBlt := hbox.lt;have hM := (Blk.new w9 54 zeroC)
     have hMn : H9 w9.heap.size = none := hG9.holds.none_of_ge (Nat.le_refl _);obtain ⟨M, hMe⟩ : ∃ M, w9.heap.size = M := ⟨_, rfl⟩
     have HM := Hh (And.intro hG9.size (And.intro hBlt hMe));rw [hMe] at hM hMn;go_wp2_with (with_reducible refine stop_store ?_)
     unfold Stopped
     try rw [hMe]
     refine wpList_store_item rfl _ _ _ rfl rfl M _ rfl rfl _ _ hM size_item rfl (one4 _ _ _ _ rfl rfl rfl rfl) fun w11 hM11 hg11 => ?_
     have hS : BM w H B M #[.slice (some ⟨g, 0, none⟩) m vc] (.slice none 0 0) (.slice none 0 0) [] w11 H9 :=
      ⟨(hG9.alloc zeroO).grownOwn hMn (by have := HM.out; omega) hg11, hK9, hB9, hMn, hlt9, by have := hkey.lt; have := HM.out; omega, by have := HM.out; omega, (hkey.alloc zeroO).grown hg11 (fun e => by injection e with e; have := hkey.lt; have := HM.out; omega),
       (hbox.alloc zeroO).grown hg11 (fun e => by injection e with e; have := HM.out; omega), hM11, OwnI.nil _ _ _, fun g hg => by simp [Value.ownBlock] at hg⟩
     have c0 := hS.boxB.cell 0 rfl;clear hM hMn hMe hg11 hM11 hbox hkey hlt9 hBlt hG9 hK9 hB9;go_wp2_with fail
     go_loopw [62] (fun v62 wx => ∃ (i : Nat) (Hx : Snap) (VA : Option Addr) (vm v9 : Nat), i ≤ m ∧ v62 = .int .i64 (i : Int) ∧ vm = 2 * i ∧ H9.le Hx ∧ BM w H B M #[.slice (some ⟨g, 0, none⟩) m vc] (.slice VA vm v9) (.slice VA vm v9) (ps.take (2 * i)) wx Hx) (fun v62 _ => m - (intOf v62).toNat)
     case atStart => exact ⟨0, H9, none, 0, 0, Nat.zero_le _, rfl, rfl, Snap.le.refl _, by simpa using hS⟩
     case round =>
      clear hS c0;obtain ⟨i, Hx, VA, vm, v9, him, rfl, hvm, hle, hS⟩ := hrel;have HI := Hh (And.intro him hvm);clear him hvm
      by_cases hlt : i < m
      ·have hi1 : 2 * i + 1 < ps.length := by have := HN.out; omega
       have hltI : (i : Int) < m := by omega
       have hi63 : (i : Int) + 1 ≤ 9223372036854775807 := by have := HC.out.2.2; have := HN.out; omega
       have hgi := pk_get ps i hi1;have hil : i < (pk ps).length := by have := HPL.out; omega
       rw [List.getElem?_eq_getElem hil] at hgi;have hgi' := Option.some.inj hgi
       have HTK : Hid (ps.take (2 * (i + 1)) = ps.take (2 * i) ++ [ps[2 * i]'(by omega), ps[2 * i + 1]]) := by
        rw [Hid, show 2 * (i + 1) = 2 * i + 1 + 1 by omega, List.take_succ_eq_append_getElem hi1, List.take_succ_eq_append_getElem (by omega), List.append_assoc];rfl
       have HASC : Hid (∀ k, k + 1 = i → ∀ hk : k < (pk ps).length, Lib.compareBytes ((pk ps)[k].1) (encB (ps[2 * i]'(Nat.lt_of_succ_lt hi1))) < 0) := fun k hk hkl => by
        subst hk;have e1 := pk_get ps k (by omega);rw [List.getElem?_eq_getElem hkl] at e1;rw [Option.some.inj e1]
        exact asc_at (m := 2 * k) HA.out.1 (by omega) (by omega)
       obtain ⟨gb, go, hga, hrows⟩ := hrow9.at_ (by omega)
       cases hga
       obtain ⟨dc, ⟨KA, kc, y1, y2, y3, y4, z1, z2, z3, z4, hdc, hky, hey, hez⟩, hcell⟩ := hrows i hil;subst hdc;rw [hgi'] at hky hey hez hcell;have HROW := Hh hrows;have r0 := hle.cell (hcell 0 _ rfl);have r1 := hle.cell (hcell 1 _ rfl);have r2 := hle.cell (hcell 2 _ rfl);have r3 := hle.cell (hcell 3 _ rfl);have r4 := hle.cell (hcell 4 _ rfl);have r5 := hle.cell (hcell 5 _ rfl);have r6 := hle.cell (hcell 6 _ rfl);have r7 := hle.cell (hcell 7 _ rfl);have r8 := hle.cell (hcell 8 _ rfl);have hky := hky.mono hle;have hey := hey.mono hle;have hez := hez.mono hle
       generalize ps[2 * i]'(by omega) = y at *
       generalize ps[2 * i + 1]'hi1 = z at *
       generalize hLL : ps.take (2 * i) = LL at hS HTK
       have HLL : Hid (LL.length = vm) := by rw [Hid, ← hLL, List.length_take]; have := HI.out; omega
       have HIT := Hh (And.intro hky (And.intro hey hez));clear hgi hgi' hcell hrows hky hey hez hLL;have r0 := hS.grows.holds.cell r0;have r1 := hS.grows.holds.cell r1;have r2 := hS.grows.holds.cell r2;have r3 := hS.grows.holds.cell r3;have r4 := hS.grows.holds.cell r4;have r5 := hS.grows.holds.cell r5;have r6 := hS.grows.holds.cell r6;have r7 := hS.grows.holds.cell r7;have r8 := hS.grows.holds.cell r8
       simp only [lieP, Nat.add_zero, Nat.zero_add, ← Nat.add_assoc] at r0 r1 r2 r3 r4 r5 r6 r7 r8
       go_upto_region 19 with fail
       have hD := Blk.new wr 84 #[.slice KA (encB y).length kc, .int .i64 y.kind, .int .u64 y.n, .slice y1 y.bytes.length y2, .slice y3 y.items.length y4, .int .i64 z.kind, .int .u64 z.n, .slice z1 z.bytes.length z2, .slice z3 z.items.length z4];replace hS := hS.alloc (.cells #[.slice KA (encB y).length kc, .int .i64 y.kind, .int .u64 y.n, .slice y1 y.bytes.length y2, .slice y3 y.items.length y4, .int .i64 z.kind, .int .u64 z.n, .slice z1 z.bytes.length z2, .slice z3 z.items.length z4] 84);obtain ⟨P, hPe⟩ : ∃ P, wr.heap.size = P := ⟨_, rfl⟩
       obtain ⟨w2, hw2⟩ : ∃ w2, wr.alloc (.cells #[.slice KA (encB y).length kc, .int .i64 y.kind, .int .u64 y.n, .slice y1 y.bytes.length y2, .slice y3 y.items.length y4, .int .i64 z.kind, .int .u64 z.n, .slice z1 z.bytes.length z2, .slice z3 z.items.length z4] 84) = w2 := ⟨_, rfl⟩
       rw [hw2] at hS hD ⊢;rw [hPe] at hD ⊢;clear hw2 hPe r0 r1 r2 r3 r4 r5 r6 r7 r8;go_cut [79] (fun s79 wx => s79 = .bool false ∧ BM w H B M #[.slice (some ⟨g, 0, none⟩) m vc] (.slice VA vm v9) (.slice VA vm v9) LL wx Hx ∧ Blk wx P 84 #[.slice KA (encB y).length kc, .int .i64 y.kind, .int .u64 y.n, .slice y1 y.bytes.length y2, .slice y3 y.items.length y4, .int .i64 z.kind, .int .u64 z.n, .slice z1 z.bytes.length z2, .slice z3 z.items.length z4])
       case first =>
        by_cases h0 : i = 0
        ·subst h0
         refine wp_region_ways 12 (fun _ => True) (by kernel_rfl) (trivial) (fun hHeld => ?_)
         refine Tk 0 rfl hHeld ?_
         refine Tk 1 rfl hHeld ?_
         refine Tk 2 rfl hHeld ?_
         refine TkU 3 rfl hHeld ?_
         refine TkU 4 rfl hHeld ?_
         refine TkU 5 rfl hHeld ?_
         refine TkU 6 rfl hHeld ?_
         refine TkU 7 rfl hHeld ?_
         refine TkU 8 rfl hHeld ?_
         refine TkU 9 rfl hHeld ?_
         refine TkU 10 rfl hHeld ?_
         refine TkU 11 rfl hHeld ?_
         refine To 12 rfl fun K hK => ?_
         go_simp
         refine hK.out _ _ (fun h => absurd rfl h) (fun _ => ?_)
         clear hK K
         try simp only [Act.put, zz4, zz5, zz6]
         refine Ways.done (by kernel_rfl) ?_
         go_wp2_with fail
         go_meet
         exact ⟨rfl, hS.drew, hD.drew⟩
        ·obtain ⟨k, rfl⟩ : ∃ k, i = k + 1 := ⟨i - 1, by omega⟩
         obtain ⟨dk, ⟨KB, kd, u1, u2, u3, u4, u5, u6, u7, u8, hdk, hkb, _, _⟩, hcell⟩ := HROW.out k (by have := HPL.out; omega);subst hdk
         have hne : Hid (((pk ps)[k]'(by have := HPL.out; omega)).1 ≠ encB y) := fun e => by
          have h1 := HASC.out k rfl (by have := HPL.out; omega);rw [e, cmp_refl] at h1
          omega
         have rk := hcell 0 _ rfl
         generalize ((pk ps)[k]'(by have := HPL.out; omega)).1 = kb at *
         have rk := hS.grows.holds.cell (hle.cell rk)
         simp only [lieP, Nat.add_zero, Nat.zero_add] at rk
         have hEQ : Hid ((kb == encB y) = false) := by rw [Hid, beq_eq_false_iff_ne]; exact hne.out
         have e2 : ((k + 1 : Nat) : Int) = (k : Int) + 1 := by omega
         try rw [e2]
         have hw1 : IntKind.i64.wrap ((k : Int) + 1 - 1) = (k : Int) := by rw [show (k : Int) + 1 - 1 = (k : Int) by omega]; exact IntWalk.i64_in _ (by omega)
         have hw3 : IntKind.i64.wrap (k : Int) = (k : Int) := IntWalk.i64_in _ (by omega);have hkI : (k : Int) < m := by omega
         have hk0 : (0 : Int) ≤ (k : Int) := by omega
         have hkp : (0 : Int) < (k : Int) + 1 := by omega
         have hkm : k < m := by omega
         have hKB := Hh (hkb.mono hle);have c0 := hS.boxB.cell 0 rfl;have d0 := hD.cell 0 rfl;replace hS := hS.drew;replace hD := hD.drew;clear hcell hkb hne e2 hltI hi63 h0
         refine wp_region_ways 12 (fun wx => wx.cell? ⟨B, 0, none⟩ = some (.slice (some ⟨g, 0, none⟩) m vc) ∧ wx.cell? ⟨g, k * 9, none⟩ = some (.slice KB kb.length kd) ∧ wx.cell? ⟨P, 0, none⟩ = some (.slice KA (encB y).length kc)) (by kernel_rfl) (⟨c0, rk, d0⟩) (fun hHeld => ?_)
         refine Tk 0 rfl hHeld ?_
         refine Tk 1 rfl hHeld ?_
         refine Tk 2 rfl hHeld ?_
         refine TkG 3 rfl hHeld ?_
         refine TkG 4 rfl hHeld ?_
         refine TkG 5 rfl hHeld ?_
         refine TkG 6 rfl hHeld ?_
         refine TkG 7 rfl hHeld ?_
         refine TkG 8 rfl hHeld ?_
         refine TkG 9 rfl hHeld ?_
         refine TkG 10 rfl hHeld ?_
         refine To 11 rfl fun K hK => ?_
         go_simp
         refine (bytes_Equal _ KB KA kb (encB y) _ _ kd kc rfl rfl (Src.of_row hKB.out.row hS.grows.holds) (Src.of_row HIT.out.1.row hS.grows.holds)).mono ?_
         rintro e w5 ⟨rfl, rfl⟩
         rw [hEQ.out]
         refine hK.out _ _ (fun _ => ?_) (fun hHeld => ?_)
         ·exact ⟨c0, rk, d0⟩
         clear hK K;have hHeld := hHeld (by decide)
         try simp only [Act.put, zz4, zz5, zz6]
         refine To 12 rfl fun K hK => ?_
         go_simp
         refine hK.out _ _ (fun h => absurd rfl h) (fun _ => ?_)
         clear hK K
         try simp only [Act.put, zz4, zz5, zz6]
         refine Ways.done (by kernel_rfl) ?_
         clear hHeld c0 rk d0;go_wp2_with fail
         go_meet
         exact ⟨rfl, hS, hD⟩
       case rest =>
        clear hS hD;obtain ⟨rfl, hS, hD⟩ := hcut;have m3 := hS.boxM.cell 3 rfl;have d1 := hD.cell 1 rfl;have d2 := hD.cell 2 rfl;have d3 := hD.cell 3 rfl;have d4 := hD.cell 4 rfl;have d5 := hD.cell 5 rfl;have d6 := hD.cell 6 rfl;have d7 := hD.cell 7 rfl;have d8 := hD.cell 8 rfl;have HS := Hh hS;clear hS hD;go_wp2_with (at_builtin; refine stop_in ?_)
        unfold Stopped
        have hZ := HS.out.litZ (itemC y y1 y2 y3 y4 ++ itemC z z1 z2 z3 z4).toArray 54;have hS := HS.out.alloc (.cells (itemC y y1 y2 y3 y4 ++ itemC z z1 z2 z3 z4).toArray 54)
        refine wpList_app_items rfl _ _ rfl _ _ _ _ rfl hS.own _ _ _ _ [y, z] rfl rfl ((ItemsC.one HIT.out.2.1).app (ItemsC.one HIT.out.2.2)) hZ (by have := HLL.out; have := HI.out; have := HC.out.2.2; have := HN.out; simp; omega) hS.base fun v7 w7 hO7 hg7 ha7 => ?_
        replace hS := hS.app hO7 hg7 ha7;obtain ⟨A7, c7, rfl, _⟩ := hO7.form;rw [show (LL ++ [y, z]).length = vm + 2 by have := HLL.out; simp; omega] at hS ⊢;clear hO7 hg7 ha7 hZ HS m3 d1 d2 d3 d4 d5 d6 d7 d8;go_wp2_with (with_reducible refine stop_store ?_)
        refine wpList_store_cell rfl _ _ _ rfl rfl M 3 (.slice A7 (vm + 2) c7) rfl rfl _ _ hS.boxM size_items (by simp) rfl fun w8 hB8 hg8 => ?_
        replace hS := hS.setM (by simpa using hB8) hg8;clear hB8 hg8;go_wp2_with fail
        go_roundw
        case rel => exact ⟨i + 1, Hx, A7, vm + 2, c7, by omega, by go_num, by have := HI.out; omega, hle, by rw [HTK.out]; exact hS⟩
        case measure => simp [intOf]; omega
      ·have hkl : i = m := by have := HI.out.1; omega
       subst hkl;clear hlt;rw [show 2 * i = ps.length from HN.out.symm, List.take_length] at hS;obtain ⟨H12, hG12, hm12, hit, hn12⟩ := hS.item;have m0 := hS.boxM.cell 0 rfl;have m1 := hS.boxM.cell 1 rfl;have m2 := hS.boxM.cell 2 rfl;have m3 := hS.boxM.cell 3 rfl;have hkey := hS.key;subst hm12;have HIT := Hh hit;have HV := Hh (cbor_Valid (hTab.mono hG12.le) (x := .mk 5 0 [] ps) hit.arg _ hG12.holds);rw [HA.out.2.2] at HV;have HMo := Hh (validP_modest HA.out.2.2);clear hS hit;go_wp2_with fail
       refine HV.out.mono ?_
       rintro e w13 ⟨rfl, hb13⟩
       have hG13 := hG12.below_ hb13;have m0 := (m0b hb13 m0)
       have m1 := (m0b hb13 m1)
       have m2 := (m0b hb13 m2)
       have m3 := (m0b hb13 m3)
       replace hkey := hkey.below hb13;have CP := Hh (cbor_copied (.mk 5 0 [] ps) H12 _ _ _ _ _ _ _ _ w13 HMo.out HIT.out.arg hG13.holds);clear HV hb13 hG12;go_wp2_with fail
       refine CP.out.mono ?_
       rintro e w14 ⟨v14, rfl, xa, xb, xc, xd, H14, rfl, hG14, hI14⟩
       have hG15 := hG13.trans hG14;have hn15 := hG14.none hn12 hkey.lt;replace hkey := hkey.below hG14.below;clear CP hG13 hG14;go_wp2_with (with_reducible refine stop_store ?_)
       refine stI hkey fun w16 hT16 hg16 => ?_
       have hG16 := hG15.grownOwn hn15 (Nat.le_refl _) hg16;clear hG15 hg16 hkey;go_wp2_with fail
       refine ret_row_tmp rfl rfl hT16 rfl rfl size_item rfl ?_
       exact ⟨_, rfl, xa, xb, xc, xd, H14, rfl, hG16, hI14⟩
end Go.Proofs.YtmacemcajlgddaaGreatDoor
