/- squeezed. Walks: the law: the public parts a -/
import Derived.Test.YtmacemcajlgddaaGreatDoorZZ
set_option linter.unusedVariables false
set_option linter.unusedSimpArgs false
set_option maxRecDepth 100000
set_option maxHeartbeats 25600000
namespace Go.Proofs.YtmacemcajlgddaaGreatDoor
open Go.RowKit
theorem law11_publics {H : Snap} (hTab : Tabs H) {A : Option Addr} {c : Nat} {l : List Int} (hl : IsInts H A c l) {raw : Ky} {ra : KAd} (hraw : KeyA H raw ra) (which by_ : Int) (hby : -9223372036854775808 ≤ by_ ∧ by_ ≤ 9223372036854775807) (w : World) (hH : Holds w H) :
  Calls Tryz.prog 3 #[.agg (keyQ raw ra), .slice A l.length c, .int .i64 which, .int .i64 by_] w fun e w' => e = .returned (.bool true) ∧ Below w.heap.size w w' := by
 have hR := Blk.new w 24 (keyQ raw ra);have hG1 := (Grows.refl hH).alloc (.cells (keyQ raw ra) 24);have NW := Hh (fun w => mk_New hl w);have HT := Hh hTab;have HRAW := Hh hraw;have HBY := Hh hby;have HH := Hh hH;obtain ⟨w2, hw2⟩ : ∃ w2, w.alloc (.cells (keyQ raw ra) 24) = w2 := ⟨_, rfl⟩
 have HZ2 : Hid (w2.heap.size = w.heap.size + 1) := by rw [Hid, ← hw2, size_alloc]
 rw [hw2] at hR hG1;obtain ⟨nl, hnl⟩ : ∃ nl, l.length = nl := ⟨_, rfl⟩
 rw [hnl] at NW ⊢;clear hTab hraw hby hl hH hnl;go_enter Tryz.func3, Tryz.ntmps3
 go_wp2_with fail
 refine (NW.out _).mono ?_
 rintro e w4 ⟨rfl, hdk, hb4⟩
 have hG4 := hG1.below_ hb4;have hR4 := hR.below hb4;have hgn : H w2.heap.size = none := HH.out.none_of_ge (by have := HZ2.out; omega);have hDI : DeckIn w4 w2.heap.size H := ⟨hdk, hG4.holds, hgn⟩
 have hgw : Hid (w.heap.size ≤ w2.heap.size ∧ w.heap.size ≠ w2.heap.size) := by have := HZ2.out; rw [Hid]; omega
 clear hw2 hdk hb4 hR hG1 NW hgn;go_wp2_with fail
 refine (deck_Key _ hDI).mono ?_
 rintro e w5 ⟨k, ka, H5, rfl, hd5, hk5, hv5⟩
 have hG5 := hG4.trans_but hd5.grows hgw.out.1;have hR5 := hR4.dealt hd5 hgw.out.2;have hB9 := Blk.new w5 24 (keyQ k ka);have hG6 := hG5.alloc (.cells (keyQ k ka) 24);have hR6 := hR5.alloc (.cells (keyQ k ka) 24);obtain ⟨K9, hK9⟩ : ∃ K9, w5.heap.size = K9 := ⟨_, rfl⟩
 obtain ⟨w6, hw6⟩ : ∃ w6, w5.alloc (.cells (keyQ k ka) 24) = w6 := ⟨_, rfl⟩
 have HW6 := Hh (show w5.alloc (.cells #[.int .i64 k.kty, .int .i64 k.crv, .int .i64 k.alg, .slice ka.ia k.kid.length ka.ic, .slice ka.xa k.x.length ka.xc, .slice ka.da k.d.length ka.dc, .slice ka.ka k.k.length ka.kc] 24) = w6 from hw6);have HK9 := Hh hK9;rw [hK9] at hB9;rw [hw6] at hB9 hG6 hR6;have HK5 := Hh hk5;have HV5 := Hh hv5;have hle5 := Hh hG5.le;clear hw6 hK9 hd5 hk5 hv5 hDI hG4 hR4 hG5 hR5 hgw;go_upto_region 2 with fail
 rw [HW6.out]
 try rw [HK9.out]
 clear HW6 HK9;go_cut [29, 30, 31] (fun s29 s30 s31 wx => s30 = .int .i64 3 ∧ s31 = .int .i64 0 ∧ ∃ g Hr q3, s29 = .slice (some ⟨g, 0, none⟩) 3 3 ∧ Grows w H wx Hr ∧ IsRow lieK Hr (some ⟨g, 0, none⟩) 3 [raw, k, q3] ∧ Blk wx K9 24 (keyQ k ka))
 case first =>
  have HS := Hh (And.intro hR6 hB9)
  refine wp_region_waysZ 6 (fun wx => (wx.cell? ⟨w.heap.size, 0, none⟩ = some (.int .i64 raw.kty) ∧ wx.cell? ⟨w.heap.size, 1, none⟩ = some (.int .i64 raw.crv) ∧ wx.cell? ⟨w.heap.size, 2, none⟩ = some (.int .i64 raw.alg) ∧ wx.cell? ⟨w.heap.size, 3, none⟩ = some (.slice ra.ia raw.kid.length ra.ic) ∧ wx.cell? ⟨w.heap.size, 4, none⟩ = some (.slice ra.xa raw.x.length ra.xc) ∧ wx.cell? ⟨w.heap.size, 5, none⟩ = some (.slice ra.da raw.d.length ra.dc) ∧ wx.cell? ⟨w.heap.size, 6, none⟩ = some (.slice ra.ka raw.k.length ra.kc)) ∧ (wx.cell? ⟨K9, 0, none⟩ = some (.int .i64 k.kty) ∧ wx.cell? ⟨K9, 1, none⟩ = some (.int .i64 k.crv) ∧ wx.cell? ⟨K9, 2, none⟩ = some (.int .i64 k.alg) ∧ wx.cell? ⟨K9, 3, none⟩ = some (.slice ka.ia k.kid.length ka.ic) ∧ wx.cell? ⟨K9, 4, none⟩ = some (.slice ka.xa k.x.length ka.xc) ∧ wx.cell? ⟨K9, 5, none⟩ = some (.slice ka.da k.d.length ka.dc) ∧ wx.cell? ⟨K9, 6, none⟩ = some (.slice ka.ka k.k.length ka.kc))) (by kernel_rfl) (⟨⟨hR6.drew.cell 0 rfl, hR6.drew.cell 1 rfl, hR6.drew.cell 2 rfl, hR6.drew.cell 3 rfl, hR6.drew.cell 4 rfl, hR6.drew.cell 5 rfl, hR6.drew.cell 6 rfl⟩, ⟨hB9.drew.cell 0 rfl, hB9.drew.cell 1 rfl, hB9.drew.cell 2 rfl, hB9.drew.cell 3 rfl, hB9.drew.cell 4 rfl, hB9.drew.cell 5 rfl, hB9.drew.cell 6 rfl⟩⟩) (fun hHeld => ?_)
  refine Zk 0 rfl hHeld ?_
  refine Zk 1 rfl hHeld ?_
  refine Zk 2 rfl hHeld ?_
  refine Zk 3 rfl hHeld ?_
  refine Zk 4 rfl hHeld ?_
  refine ZkT 8 rfl (fun _ => hHeld) ?_
  refine Zo 5 rfl fun K hK => ?_
  go_simp
  refine (law11_spoilt HK5.out (by have := validK_len HV5.out; omega) which by_ HBY.out _ hG6.drew.holds).mono ?_
  rintro e w7 ⟨q3, a3, H7, rfl, hG7, hk7⟩
  replace hR6 := hR6.drew.below hG7.below;replace hB9 := hB9.drew.below hG7.below;replace hG6 := hG6.drew.trans hG7;have HKA := Hh (And.intro hk7 (And.intro (HK5.out.mono hG7.le) (HRAW.out.mono (hle5.out.trans hG7.le))));clear hG7 hk7
  refine hK.out _ _ (fun _ => ?_) (fun hHeld => ?_)
  ·exact ⟨⟨hR6.cell 0 rfl, hR6.cell 1 rfl, hR6.cell 2 rfl, hR6.cell 3 rfl, hR6.cell 4 rfl, hR6.cell 5 rfl, hR6.cell 6 rfl⟩, ⟨hB9.cell 0 rfl, hB9.cell 1 rfl, hB9.cell 2 rfl, hB9.cell 3 rfl, hB9.cell 4 rfl, hB9.cell 5 rfl, hB9.cell 6 rfl⟩⟩
  clear hK K;have hHeld := hHeld (by decide)
  try simp only [Act.put, zz1, zz2, zz3, zz4, zz5, zz6]
  refine Zo 6 rfl fun K hK => ?_
  go_simp
  obtain ⟨H8, hG8, hl8, hr8⟩ := lit_row (L := lieK) (l := [raw, k, q3]) hG6 ((RowC.one (L := lieK) (H := H7) (x := raw) (c := (keyQ raw ra).toList) ⟨ra, rfl, HKA.out.2.2⟩).app ((RowC.one (L := lieK) (H := H7) (x := k) (c := (keyQ k ka).toList) ⟨ka, rfl, HKA.out.2.1⟩).app (RowC.one (L := lieK) (H := H7) (x := q3) (c := (keyQ q3 a3).toList) ⟨a3, rfl, HKA.out.1⟩))) 24 (by simp);replace hB9 := hB9.below (below_box _ (.cells ((keyQ raw ra).toList ++ ((keyQ k ka).toList ++ (keyQ q3 a3).toList)).toArray 24))
  refine hK.out _ _ (fun h => absurd h (by decide)) (fun _ => ?_)
  clear hK K
  try simp only [Act.put, zz1, zz2, zz3, zz4, zz5, zz6]
  refine ZkT 7 rfl (fun h => absurd h (by decide)) ?_
  refine WaysZ.done (by kernel_rfl) ?_
  clear hHeld;go_wp2_with fail
  go_meet
  exact ⟨rfl, rfl, _, H8, q3, rfl, hG8, hr8, hB9⟩
 case rest =>
  clear hG6 hR6 hB9;obtain ⟨rfl, rfl, g, H8, q3, rfl, hG8, hr8, hB8⟩ := hcut;obtain ⟨qs, hqs⟩ : ∃ qs, [raw, k, q3] = qs := ⟨_, rfl⟩
  have HQS : Hid (qs.length = 3) := by rw [Hid, ← hqs]; rfl
  rw [hqs] at hr8;have HR8 := Hh hr8;clear hqs hr8;go_wp2_with fail
  go_loopw [31] (fun v31 wr => ∃ (j : Nat) (Hr : Snap), j ≤ 3 ∧ v31 = .int .i64 (j : Int) ∧ Grows w H wr Hr ∧ H8.le Hr) (fun v31 _ => 3 - (intOf v31).toNat)
  case atStart => exact ⟨0, H8, by omega, rfl, hG8, Snap.le.refl _⟩
  case round =>
   clear hG8 hB8;obtain ⟨j, Hr, hj, rfl, hGr, hlr⟩ := hrel;have HJ := Hh hj;have HLR := Hh hlr;clear hj hlr
   by_cases hlt : j < 3
   ·have hji : (j : Int) < 3 := by omega
    obtain ⟨gb, go, hga, hat⟩ := HR8.out.at_ (by rw [HQS.out]; omega)
    cases hga
    obtain ⟨d, hd, hc⟩ := hat j (by rw [HQS.out]; exact hlt);obtain ⟨xa, hd, hkx⟩ := hd;subst hd
    generalize qs[j]'(by rw [HQS.out]; exact hlt) = x at *
    have r0 := hGr.holds.cell (HLR.out.cell (hc 0 _ rfl));have r1 := hGr.holds.cell (HLR.out.cell (hc 1 _ rfl));have r2 := hGr.holds.cell (HLR.out.cell (hc 2 _ rfl));have r3 := hGr.holds.cell (HLR.out.cell (hc 3 _ rfl));have r4 := hGr.holds.cell (HLR.out.cell (hc 4 _ rfl));have r5 := hGr.holds.cell (HLR.out.cell (hc 5 _ rfl));have r6 := hGr.holds.cell (HLR.out.cell (hc 6 _ rfl))
    simp only [lieK, Nat.add_zero, Nat.zero_add, ← Nat.add_assoc] at r0 r1 r2 r3 r4 r5 r6
    have HKX := Hh (hkx.mono HLR.out);have hP := Blk.new wr 24 (keyQ x xa);have hG1 := hGr.alloc (.cells (keyQ x xa) 24);obtain ⟨PK, hPK⟩ : ∃ PK, pubK x = PK := ⟨_, rfl⟩
    obtain ⟨pc, hpc⟩ : ∃ pc, pubC x = pc := ⟨_, rfl⟩
    obtain ⟨tb, htb⟩ : ∃ tb, thB x = tb := ⟨_, rfl⟩
    obtain ⟨tc, htc⟩ : ∃ tc, thC x = tc := ⟨_, rfl⟩
    have HE := Hh (And.intro hPK (And.intro hpc (And.intro htb htc)));have hltI := Hh hlt;clear hPK hpc htb htc hat hc hkx hGr hlt;go_wp2_with fail
    refine (key_Public HKX.out _ hG1.holds).mono ?_
    rintro e w11 ⟨a1, H1, rfl, hG2, hk1⟩
    have HLE := Hh (HLR.out.trans hG2.le);rw [HE.out.1] at hk1 ⊢;rw [HE.out.2.1];replace HKX := Hh (HKX.out.mono hG2.le);replace hP := (hP.below hG2.below).alloc (.cells (keyQ PK a1) 24);have hU := Blk.new w11 24 (keyQ PK a1);replace hG1 := (hG1.trans hG2).alloc (.cells (keyQ PK a1) 24);have HK1 := Hh hk1;clear hG2 hk1 r0 r1 r2 r3 r4 r5 r6;have p0 := hP.cell 0 rfl;have p1 := hP.cell 1 rfl;have p2 := hP.cell 2 rfl;have p3 := hP.cell 3 rfl;have p4 := hP.cell 4 rfl;have p5 := hP.cell 5 rfl;have p6 := hP.cell 6 rfl;go_wp2_with fail
    refine (ref11_Public HKX.out _ hG1.holds).mono ?_
    rintro e w12 ⟨a2, H2, rfl, hG2, hk2⟩
    replace HLE := Hh (HLE.out.trans hG2.le);rw [HE.out.1] at hk2 ⊢;rw [HE.out.2.1];replace HKX := Hh (HKX.out.mono hG2.le);replace HK1 := Hh (HK1.out.mono hG2.le);replace hP := (hP.below hG2.below).alloc (.cells (keyQ PK a2) 24);replace hU := (hU.below hG2.below).alloc (.cells (keyQ PK a2) 24);have hV := Blk.new w12 24 (keyQ PK a2);replace hG1 := (hG1.trans hG2).alloc (.cells (keyQ PK a2) 24);have HK2 := Hh hk2;clear hG2 hk2 p0 p1 p2 p3 p4 p5 p6;have p0 := hP.cell 0 rfl;have p1 := hP.cell 1 rfl;have p2 := hP.cell 2 rfl;have p3 := hP.cell 3 rfl;have p4 := hP.cell 4 rfl;have p5 := hP.cell 5 rfl;have p6 := hP.cell 6 rfl;go_wp2_with fail
    refine (key_Thumb (HT.out.mono hG1.le) HKX.out _ hG1.holds).mono ?_
    rintro e w13 ⟨v3, rfl, hf⟩
    rw [HE.out.2.2.1] at hf;rw [HE.out.2.2.2];obtain ⟨RA, rc, rfl, hjk⟩ := hf.own.form;clear hjk;replace hP := hP.below hf.2;replace hU := hU.below hf.2;replace hV := hV.below hf.2;have HS1 := Hh hf.own.src;replace hG1 := hG1.below_ hf.2;clear hf p0 p1 p2 p3 p4 p5 p6;have p0 := hP.cell 0 rfl;have p1 := hP.cell 1 rfl;have p2 := hP.cell 2 rfl;have p3 := hP.cell 3 rfl;have p4 := hP.cell 4 rfl;have p5 := hP.cell 5 rfl;have p6 := hP.cell 6 rfl;go_wp2_with fail
    refine (ref11_Thumb (HT.out.mono hG1.le) HKX.out _ hG1.holds).mono ?_
    rintro e w14 ⟨v4, rfl, hf⟩
    rw [HE.out.2.2.1] at hf;rw [HE.out.2.2.2];obtain ⟨RB, rd, rfl, hjk⟩ := hf.own.form;clear hjk;replace hU := hU.below hf.2;replace hV := hV.below hf.2;replace HS1 := Hh (HS1.out.below hf.2);have HS2 := Hh hf.own.src;replace hG1 := hG1.below_ hf.2;clear hf hP p0 p1 p2 p3 p4 p5 p6;have u0 := hU.cell 0 rfl;have u1 := hU.cell 1 rfl;have u2 := hU.cell 2 rfl;have u3 := hU.cell 3 rfl;have u4 := hU.cell 4 rfl;have u5 := hU.cell 5 rfl;have u6 := hU.cell 6 rfl;have v0 := hV.cell 0 rfl;have v1 := hV.cell 1 rfl;have v2 := hV.cell 2 rfl;have v3 := hV.cell 3 rfl;have v4 := hV.cell 4 rfl;have v5 := hV.cell 5 rfl;have v6 := hV.cell 6 rfl;go_wp2_with fail
    refine (ref11_Same HK1.out HK2.out _ hG1.holds).mono ?_
    rintro e w15 ⟨rfl, hb15⟩
    replace hG1 := hG1.below_ hb15;have k1 := conv_bytes (HS1.out.below hb15) _ rc rfl;have k2 := conv_bytes (HS2.out.below hb15) _ rd rfl;clear hU hV hb15 u0 u1 u2 u3 u4 u5 u6 v0 v1 v2 v3 v4 v5 v6;have hj63 : (j : Int) + 1 ≤ 9223372036854775807 := by have := hltI.out; omega
    go_wp2_with fail
    go_roundw
    case rel => exact ⟨j + 1, _, by have := hltI.out; omega, by go_num, hG1, HLE.out⟩
    case measure => have := hltI.out; simp [intOf]; omega
   ·have hjn : ¬ (j : Int) < 3 := by omega
    clear hlt;have hbr := hGr.below;have AW := Hh (law11_awake (HT.out.mono hGr.le) wr hGr.holds);clear hGr;go_wp2_with fail
    refine AW.out.mono ?_
    rintro e w21 ⟨rfl, hb21⟩
    have hbt := hbr.trans (hb21.mono hbr.size);go_wp2_with fail
    go_ret
    exact ⟨rfl, hbt⟩
end Go.Proofs.YtmacemcajlgddaaGreatDoor
