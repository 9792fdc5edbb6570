/- squeezed. Walks: the law: what does not matt -/
import Derived.Test.YtmacemcajlgddaaGreatDoorZZ
set_option linter.unusedVariables false
set_option linter.unusedSimpArgs false
set_option maxRecDepth 100000
set_option maxHeartbeats 25600000
namespace Go.Proofs.YtmacemcajlgddaaGreatDoor
open Go.RowKit
theorem th_same {q j : Ky} (h1 : j.kty = q.kty) (h2 : j.crv = q.crv) (h3 : j.x = q.x) (h4 : j.k = q.k) (hq : validK q = true) (hj : validK j = true) : thC j = thC q ∧ thB j = thB q := by
 have e1 : thC j = thC q := by rw [thC, thC, if_pos hq, if_pos hj, h1, h3]
 exact ⟨e1, by rw [thB, thB, e1, show bareK j = bareK q by rw [bareK, bareK, h1, h2, h3, h4]]⟩
theorem alg_valid {q : Ky} {g : Int} {kid : List UInt8} (hq : validK q = true) (hg : -65536 ≤ g ∧ g ≤ 65535) (hk : kid.length ≤ 16) : validK ⟨q.kty, q.crv, g, kid, q.x, q.d, q.k⟩ = true := by
 rw [validK_iff] at hq ⊢
 exact ⟨hk, hg.1, hg.2, hq.2.2.2⟩
theorem pub_valid {q : Ky} (hq : validK q = true) (h : pubC q = 0) : pubK q = ⟨q.kty, q.crv, q.alg, q.kid, q.x, [], []⟩ ∧ validK (pubK q) = true ∧ q.k = [] ∧ thC q = 0 := by
 have hn : ¬ (q.kty = 4 ∨ q.x.length = 0) := by
  intro hn
  rw [(pub_12 hq hn).1] at h
  exact absurd h (by decide)
 have hk := okp_k hq (fun h4 => hn (.inl h4));have e := (pub_ok hq hn).2
 refine ⟨e, ?_, hk, (th_ok hq (fun h1 => hn (.inr h1.2))).1⟩
 rw [e];rw [validK_iff] at hq ⊢;obtain ⟨a1, a2, a3, hq⟩ := hq
 refine ⟨a1, a2, a3, ?_⟩
 rcases hq with ⟨b1, b2, b3, b4, b5, b6⟩ | ⟨b1, b2, b3, b4, b5⟩
 ·have hx : 0 < q.x.length := by have : ¬ q.x.length = 0 := fun hx => hn (.inr hx); omega
  exact .inl ⟨b1, b2, b3, .inl rfl, by show 0 < q.x.length + 0; omega, rfl⟩
 ·exact absurd (.inl b1) hn
theorem pub_fail {q : Ky} (hq : validK q = true) (h : ¬ pubC q = 0) : (thC q = 12 ↔ q.kty = 1) := by
 by_cases h4 : q.kty = 4 ∨ q.x.length = 0
 ·by_cases h1 : q.kty = 1 ∧ q.x.length = 0
  ·simp [(th_12 hq h1.1 h1.2).1, h1.1]
  ·have h2 : ¬ q.kty = 1 := by
    intro hk
    rcases h4 with h4 | h4
    ·rw [hk] at h4; exact absurd h4 (by decide)
    ·exact h1 ⟨hk, h4⟩
   simp [(th_ok hq h1).1, h2]
 ·exact absurd (pub_ok hq h4).1 h
theorem law11_thumbs {H : Snap} (hTab : Tabs H) {A : Option Addr} {c : Nat} {l : List Int} (hl : IsInts H A c l) {KA : Option Addr} {kc : Nat} {kid : List UInt8} (hkid : IsBytes H KA kc kid) (alg : Int) (w : World) (hH : Holds w H) :
  Calls Tryz.prog 4 #[.slice A l.length c, .slice KA kid.length kc, .int .i64 alg] w fun e w' => e = .returned (.bool true) ∧ Below w.heap.size w w' := by
 have NW := Hh (mk_New hl w);have HT := Hh hTab;have HKD := Hh hkid;have HH := Hh hH;obtain ⟨nl, hnl⟩ : ∃ nl, l.length = nl := ⟨_, rfl⟩
 obtain ⟨n, hn⟩ : ∃ n, kid.length = n := ⟨_, rfl⟩
 have HNI := Hh hn;have hnc : n ≤ kc := by rw [← hn]; exact hkid.le
 have hcm := hkid.max;rw [hnl] at NW ⊢;rw [hn];obtain ⟨mm, hmm⟩ : ∃ mm, min n 16 = mm := ⟨_, rfl⟩
 have HMM : Hid (mm ≤ 16 ∧ mm ≤ n ∧ n ≤ kc ∧ kc ≤ 9223372036854775807 ∧ (kid.take 16).length = mm) := by
  refine ⟨by omega, by omega, hnc, hcm, ?_⟩
  rw [List.length_take, hn]
  omega
 have MN : min (n : Int) 16 = (mm : Int) := by omega
 clear hTab hkid hl hH hnl hn hmm hcm hnc;go_enter Tryz.func4, Tryz.ntmps4
 go_wp2_with fail
 refine NW.out.mono ?_
 rintro e w4 ⟨rfl, hdk, hb4⟩
 have hG4 := Grows.of_below HH.out hb4;have hDI : DeckIn w4 w.heap.size H := ⟨hdk, hG4.holds, HH.out.none_of_ge (Nat.le_refl _)⟩
 clear hdk hb4 NW;go_wp2_with fail
 refine (deck_Key _ hDI).mono ?_
 rintro e w5 ⟨k, ka, H5, rfl, hd5, hk5, hv5⟩
 have hG5 := hG4.trans_but hd5.grows (Nat.le_refl _);have hP := Blk.new w5 24 (keyQ k ka);have hG1 := hG5.alloc (.cells (keyQ k ka) 24);have HK := Hh hk5;have HV := Hh hv5;obtain ⟨tb, htb⟩ : ∃ tb, thB k = tb := ⟨_, rfl⟩
 obtain ⟨tc, htc⟩ : ∃ tc, thC k = tc := ⟨_, rfl⟩
 have HE := Hh (And.intro htb htc);clear hG4 hDI hd5 hk5 hv5 hG5 htb htc;go_wp2_with fail
 refine (key_Thumb (HT.out.mono hG1.le) HK.out _ hG1.holds).mono ?_
 rintro e w6 ⟨v6, rfl, hf⟩
 rw [HE.out.1] at hf;rw [HE.out.2];obtain ⟨nt, hnt⟩ : ∃ nt, tb.length = nt := ⟨_, rfl⟩
 have HNT := Hh hnt;obtain ⟨RA, rc, rfl, hjk⟩ := hf.own.form;obtain ⟨H6, hG2, hb6, hjk2⟩ := Fresh.snapB hG1.holds hf;rw [hnt];replace hP := hP.below hf.2;have HS1 := Hh hb6;replace HK := Hh (HK.out.mono hG2.le);replace hG1 := hG1.trans hG2;clear hf hjk hjk2 hG2 hb6 hnt;have p0 := hP.cell 0 rfl;have p1 := hP.cell 1 rfl;have p2 := hP.cell 2 rfl;have p3 := hP.cell 3 rfl;have p4 := hP.cell 4 rfl;have p5 := hP.cell 5 rfl;have p6 := hP.cell 6 rfl;go_wp2_with fail
 refine (ref11_Copy HK.out (by have := validK_len HV.out; omega) _ hG1.holds).mono ?_
 rintro e w7 ⟨aj, H7, rfl, hG2, hk7⟩
 have HKJ := Hh hk7;replace HK := Hh (HK.out.mono hG2.le);replace HS1 := Hh (HS1.out.mono hG2.le);have hJ := Blk.new w7 24 (keyQ k aj);replace hP := hP.below hG2.below;have hgn := (hG1.trans hG2).holds.none_of_ge (Nat.le_refl _);have HNJ := Hh (And.intro (Nat.le_trans hG1.below.size hG2.below.size) (And.intro hP.lt hgn));replace hP := hP.alloc (.cells (keyQ k aj) 24);replace hG1 := (hG1.trans hG2).alloc (.cells (keyQ k aj) 24);obtain ⟨J, hJe⟩ : ∃ J, w7.heap.size = J := ⟨_, rfl⟩
 obtain ⟨P, hPe⟩ : ∃ P, w5.heap.size = P := ⟨_, rfl⟩
 rw [hJe] at hJ HNJ;rw [hPe] at hP HNJ;have HJE := Hh (And.intro hJe hPe);clear hG2 hk7 hgn p0 p1 p2 p3 p4 p5 p6 hJe hPe;go_wp2_with fail
 rw [HJE.out.1, HJE.out.2]
 generalize w7.alloc (.cells (keyQ k aj) 24) = w8 at *
 refine (mk_Mod alg 1000 (by omega) (by omega) _).mono ?_
 rintro e w9 ⟨rfl, rfl⟩
 have hg0 := modP_bnd alg 1000 (by omega);obtain ⟨g, hgg⟩ : ∃ g, modP alg 1000 = g := ⟨_, rfl⟩
 rw [hgg] at hg0 ⊢;obtain ⟨g5, hg5⟩ : ∃ g5, g - 500 = g5 := ⟨_, rfl⟩
 have hgw : IntKind.i64.wrap (g - 500) = g5 := by rw [← hg5]; exact IntWalk.i64_in _ (by omega)
 have HGB : Hid (-500 ≤ g5 ∧ g5 ≤ 500) := by rw [Hid]; omega
 clear hgg hg0 hg5;go_wp2_with (with_reducible refine stop_store ?_)
 refine wpList_store_cell rfl _ _ _ rfl rfl J 2 (.int .i64 g5) rfl rfl _ _ hJ size_int (by simp) rfl fun w10 hJ10 hg10 => ?_
 have hP10 := hP.grown hg10 (by intro hc; injection hc with hc; have := HNJ.out; omega);have hG10 := hG1.grownOwn HNJ.out.2.2 HNJ.out.1 hg10;clear hP hJ hG1 hg10 hgw;have HSK := Hh (Src.of_row ((HKD.out.take' 16).mono hG10.le).row hG10.holds);have b16 : (0 : Int) ≤ (mm : Int) ∧ (mm : Int) ≤ (kc : Int) := by have := HMM.out; omega
 go_wp2_with (at_builtin; refine stop_in ?_)
 refine wpList_app_bytes rfl (.const (.slice none 0 0)) (.tmp 35) rfl w10.heap.size (.slice none 0 0) [] rfl (OwnB.nil _ _) KA mm kc (kid.take 16) rfl HMM.out.2.2.2.2.symm HSK.out (by have := HMM.out; rw [HMM.out.2.2.2.2]; simp; omega) (Nat.le_refl _) fun v11 w11 hO11 hg11 hat11 => ?_
 rw [List.nil_append] at hO11;have hf11 : Fresh w10 (kid.take 16) v11 w11 := ⟨hO11, grown_none (by simpa [Value.ownBlock] using hg11)⟩
 obtain ⟨NA, nc, rfl, hjk⟩ := hf11.own.form;obtain ⟨H11, hG2, hb11, hjk2⟩ := Fresh.snapB hG10.holds hf11;rw [HMM.out.2.2.2.2];have hP11 := hP10.below hf11.2;have hJ11 := hJ10.below hf11.2;have HNJ11 : Hid (H11 J = none) := hG2.none HNJ.out.2.2 hJ10.lt;replace HK := Hh (HK.out.mono hG2.le);replace HKJ := Hh (HKJ.out.mono hG2.le);replace HS1 := Hh (HS1.out.mono hG2.le);have hG11 := hG10.trans hG2;have HB11 := Hh hb11;clear hP10 hJ10 hG10 HSK hO11 hg11 hat11 hf11 hjk hjk2 hG2 hb11 MN;go_wp2_with (with_reducible refine stop_store ?_)
 refine wpList_store_cell rfl _ _ _ rfl rfl J 3 (.slice NA mm nc) rfl rfl _ _ hJ11 size_bytesc (by simp) rfl fun w12 hJ12 hg12 => ?_
 have hP12 := hP11.grown hg12 (by intro hc; injection hc with hc; have := HNJ.out; omega);have hG12 := hG11.grownOwn HNJ11.out HNJ.out.1 hg12;clear hP11 hJ11 hG11 hg12;obtain ⟨j, hj⟩ : ∃ j : Ky, (⟨k.kty, k.crv, g5, kid.take 16, k.x, k.d, k.k⟩ : Ky) = j := ⟨_, rfl⟩
 have HJV : Hid (thC j = tc ∧ thB j = tb) := by
  have hv := alg_valid (q := k) (g := g5) (kid := kid.take 16) HV.out (by have := HGB.out; omega) (by rw [HMM.out.2.2.2.2]; exact HMM.out.1);have h := th_same (q := k) (j := ⟨k.kty, k.crv, g5, kid.take 16, k.x, k.d, k.k⟩) rfl rfl rfl rfl HV.out hv;rw [hj] at h;rw [Hid, h.1, h.2]
  exact ⟨HE.out.2, HE.out.1⟩
 have TJ : Hid (∀ W, Holds W H11 → Calls Tryz.prog 10 #[.agg (keyC k.kty k.crv g5 NA (kid.take 16).length nc aj.xa k.x.length aj.xc aj.da k.d.length aj.dc aj.ka k.k.length aj.kc)] W (ThOut W j)) := fun W hW => by
  have h := key_Thumb (q := ⟨k.kty, k.crv, g5, kid.take 16, k.x, k.d, k.k⟩) (a := ⟨NA, nc, aj.xa, aj.xc, aj.da, aj.dc, aj.ka, aj.kc⟩) (HT.out.mono hG12.le) ⟨HKJ.out.kty, HKJ.out.crv, by have := HGB.out; simp only; omega, HB11.out, HKJ.out.x, HKJ.out.d, HKJ.out.k⟩ W hW;rw [hj] at h;subst hj
  exact h
 rw [HMM.out.2.2.2.2] at TJ;clear hj;have q0 := hJ12.cell 0 rfl;have q1 := hJ12.cell 1 rfl;have q2 := hJ12.cell 2 rfl;have q3 := hJ12.cell 3 rfl;have q4 := hJ12.cell 4 rfl;have q5 := hJ12.cell 5 rfl;have q6 := hJ12.cell 6 rfl;go_wp2_with fail
 refine (TJ.out _ hG12.holds).mono ?_
 rintro e w13 ⟨v13, rfl, hf⟩
 rw [HJV.out.2] at hf;rw [HJV.out.1];obtain ⟨RB, rd, rfl, hjk⟩ := hf.own.form;rw [HNT.out];have hP := hP12.below hf.2;have hG1 := hG12.below_ hf.2;have k1 := conv_bytes (Src.of_row HS1.out.row hG1.holds) nt rc HNT.out.symm;have k2 := conv_bytes hf.own.src nt rd HNT.out.symm;clear hP12 hG12 hJ12 hf hjk TJ q0 q1 q2 q3 q4 q5 q6 b16;have p0 := hP.cell 0 rfl;have p1 := hP.cell 1 rfl;have p2 := hP.cell 2 rfl;have p3 := hP.cell 3 rfl;have p4 := hP.cell 4 rfl;have p5 := hP.cell 5 rfl;have p6 := hP.cell 6 rfl;obtain ⟨PK, hPK⟩ : ∃ PK, pubK k = PK := ⟨_, rfl⟩
 obtain ⟨pc, hpc⟩ : ∃ pc, pubC k = pc := ⟨_, rfl⟩
 have HE2 := Hh (And.intro hPK hpc);clear hPK hpc;go_wp2_with fail
 refine (key_Public HK.out _ hG1.holds).mono ?_
 rintro e w14 ⟨a1, H1, rfl, hG2, hk1⟩
 rw [HE2.out.1] at hk1 ⊢;rw [HE2.out.2];replace HS1 := Hh (HS1.out.mono hG2.le);have HK1 := Hh hk1;replace hP := (hP.below hG2.below).alloc (.cells (keyQ PK a1) 24);have hU := Blk.new w14 24 (keyQ PK a1);replace hG1 := (hG1.trans hG2).alloc (.cells (keyQ PK a1) 24);clear hG2 hk1 k1 k2 p0 p1 p2 p3 p4 p5 p6;have p0 := hP.cell 0 (v := .int .i64 k.kty) rfl
 by_cases h0 : pc = 0
 ·have HPV := Hh (pub_valid HV.out (HE2.out.2.trans h0));have ht0 : tc = 0 := HE.out.2.symm.trans HPV.out.2.2.2
  have hn32 : nt = 32 := by
   rw [← HNT.out, ← HE.out.1, thB, if_pos HPV.out.2.2.2]
   exact shaP_len _
  have HPT : Hid (thC PK = 0 ∧ thB PK = tb) := by
   have e := HPV.out.1;have h := th_same (q := k) (j := pubK k) (by rw [e]) (by rw [e]) (by rw [e]) (by rw [e]; exact HPV.out.2.2.1.symm) HV.out HPV.out.2.1;rw [HE2.out.1] at h;rw [Hid, h.1, h.2]
   exact ⟨HPV.out.2.2.2, HE.out.1⟩
  subst h0 ht0 hn32;clear p0;have u0 := hU.cell 0 rfl;have u1 := hU.cell 1 rfl;have u2 := hU.cell 2 rfl;have u3 := hU.cell 3 rfl;have u4 := hU.cell 4 rfl;have u5 := hU.cell 5 rfl;have u6 := hU.cell 6 rfl;go_wp2_with fail
  refine (key_Thumb (HT.out.mono hG1.le) HK1.out _ hG1.holds).mono ?_
  rintro e w15 ⟨v15, rfl, hf⟩
  rw [HPT.out.2] at hf;rw [HPT.out.1];obtain ⟨RC, re, rfl, hjk⟩ := hf.own.form;rw [HNT.out];replace hG1 := hG1.below_ hf.2;have k1 := conv_bytes (Src.of_row HS1.out.row hG1.holds) 32 rc HNT.out.symm;have k2 := conv_bytes hf.own.src 32 re HNT.out.symm;have AW := Hh (law11_awake (HT.out.mono hG1.le) w15 hG1.holds);have hbr := hG1.below;clear hf hjk hU hP u0 u1 u2 u3 u4 u5 u6 hG1;go_wp2_with fail
  refine AW.out.mono ?_
  rintro e w21 ⟨rfl, hb21⟩
  have hbt := hbr.trans (hb21.mono hbr.size);go_wp2_with fail
  go_ret
  exact ⟨rfl, hbt⟩
 ·have b1 : (pc = 0) = False := eq_false h0;have b2 : (pc == 0) = false := by rw [beq_eq_false_iff_ne]; exact h0
  have HPF : Hid (tc = 12 ↔ k.kty = 1) := by
   have h := pub_fail HV.out (by rw [HE2.out.2]; exact h0);rw [HE.out.2] at h
   exact h
  have AW := Hh (law11_awake (HT.out.mono hG1.le) _ hG1.holds);have hbr := hG1.below;obtain ⟨t, ht⟩ : ∃ t, k.kty = t := ⟨_, rfl⟩
  have HTT := Hh ht;rw [ht] at p0 HPF;clear hU hP hG1 h0 ht
  by_cases h1 : t = 1
  ·have ht : tc = 12 := HPF.out.2 h1;subst h1 ht;go_wp2_with fail
   refine AW.out.mono ?_
   rintro e w21 ⟨rfl, hb21⟩
   have hbt := hbr.trans (hb21.mono hbr.size);go_wp2_with fail
   go_ret
   exact ⟨rfl, hbt⟩
  ·have b3 : (t = 1) = False := eq_false h1;have b4 : (t == 1) = false := by rw [beq_eq_false_iff_ne]; exact h1
   have b5 : (tc = 12) = False := eq_false (fun h => h1 (HPF.out.1 h));have b6 : (tc == 12) = false := by rw [beq_eq_false_iff_ne]; exact fun h => h1 (HPF.out.1 h)
   clear h1;go_wp2_with fail
   refine AW.out.mono ?_
   rintro e w21 ⟨rfl, hb21⟩
   have hbt := hbr.trans (hb21.mono hbr.size);go_wp2_with fail
   go_ret
   exact ⟨rfl, hbt⟩
end Go.Proofs.YtmacemcajlgddaaGreatDoor
