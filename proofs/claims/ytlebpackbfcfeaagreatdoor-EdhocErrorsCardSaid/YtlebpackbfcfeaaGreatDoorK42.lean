/- squeezed. Walks: reading the first message ( -/
import Derived.Test.YtlebpackbfcfeaaGreatDoorK41
set_option linter.unusedVariables false
set_option linter.unusedSimpArgs false
set_option maxRecDepth 100000
set_option maxHeartbeats 25600000
namespace Go.Proofs.YtlebpackbfcfeaaGreatDoor
open Go.RowKit
theorem size_first : (Tryz.prog.info? 47).map (·.size) = some 5 := by kernel_rfl
theorem size_ints : (Tryz.prog.info? 22).map (·.size) = some 1 := by kernel_rfl
theorem size_exts : (Tryz.prog.info? 45).map (·.size) = some 1 := by kernel_rfl
theorem one5 (a b c d e : Value) (ha : a.oneCell' = true) (hb : b.oneCell' = true) (hc : c.oneCell' = true) (hd : d.oneCell' = true) (he : e.oneCell' = true) : (#[a, b, c, d, e] : Array Value).all (·.oneCell') = true := by simp [ha, hb, hc, hd, he]
theorem items_cnt (x : Itm) : x.items.length ≤ cnt x := by
 have := cntL_len x.items;rw [cnt_eq]; omega
abbrev zeroFV : Value := .agg #[.int .i64 0, .slice none 0 0, .slice none 0 0, .slice none 0 0, .slice none 0 0]
abbrev zeroFO : Obj := .cells #[.int .i64 0, .slice none 0 0, .slice none 0 0, .slice none 0 0, .slice none 0 0] 47
theorem Rdr.grown {w w' : World} {g k : Nat} {H : Snap} {A : Option Addr} {c : Nat} {l : List UInt8} {q : Nat} (h : Rdr w g H A c l q) (hg : w.grownBy w' (some k)) (hk : k ≠ g) (hn : H k = none) : Rdr w' g H A c l q :=
 ⟨h.blk.grown hg (by intro e; injection e with e; exact hk e), h.bytes, h.holds.grown hg (by rintro q ⟨⟩; exact hn), h.apart⟩
theorem Rdr.alloc {w : World} {g : Nat} {H : Snap} {A : Option Addr} {c : Nat} {l : List UInt8} {q : Nat} (h : Rdr w g H A c l q) (o : Obj) : Rdr (w.alloc o) g H A c l q := ((Est.refl h).alloc o).rd
def FirstOut (w : World) (H : Snap) (r : Except Nat First) (e : Ending) (w' : World) : Prop :=
 match r with
 | .error q => e = .returned (.tuple #[zeroFV, .int .i64 (q : Int)]) ∧ Below w.heap.size w w'
 | .ok f => ∃ sa sc ga gc ca cc ea ec H', e = .returned (.tuple #[.agg (firstC f.method sa f.suites.length sc ga f.gx.length gc ca f.conn.length cc ea f.ext.length ec), .int .i64 0]) ∧ Grows w H w' H' ∧ FirstA H' f sa sc ga gc ca cc ea ec
theorem FirstOut.err {w w' : World} {H : Snap} {r : Except Nat First} {e : Ending} {q : Nat} (hr : r = .error q) (he : e = .returned (.tuple #[zeroFV, .int .i64 (q : Int)])) (hb : Below w.heap.size w w') : FirstOut w H r e w' := by
 subst hr; exact ⟨he, hb⟩
theorem FirstOut.ok {w w' : World} {H H' : Snap} {r : Except Nat First} {e : Ending} {f : First} {sa : Option Addr} {sc : Nat} {ga : Option Addr} {gc : Nat} {ca : Option Addr} {cc : Nat} {ea : Option Addr} {ec : Nat} (hr : r = .ok f)
  (he : e = .returned (.tuple #[.agg (firstC f.method sa f.suites.length sc ga f.gx.length gc ca f.conn.length cc ea f.ext.length ec), .int .i64 0])) (hG : Grows w H w' H') (hf : FirstA H' f sa sc ga gc ca cc ea ec) : FirstOut w H r e w' := by
 subst hr; exact ⟨sa, sc, ga, gc, ca, cc, ea, ec, H', he, hG, hf⟩
theorem e_DecodeFirst {f0 : First} {l : List UInt8} (HOK : Hid (decFirst l = .ok f0)) {H : Snap} (hTab : Tabs H) (w : World) (hH : Holds w H) {A : Option Addr} {c : Nat} (hl : IsBytes H A c l) :
  Calls Tryz.prog 17 #[.slice A l.length c] w (FirstOut w H (decFirst l)) := by
 by_cases hlong : 600 < l.length
 ·have z : (600 : Int) < (l.length : Int) := by omega
  have zd : decide ((600 : Int) < (l.length : Int)) = true := decide_eq_true z;have E : Hid (decFirst l = .error 8) := by rw [Hid]; exact decFirst_long hlong
  exact absurd (HOK.out.symm.trans E.out) (fun h => by cases h)
 have z : ¬ ((600 : Int) < (l.length : Int)) := by omega
 have zd : decide ((600 : Int) < (l.length : Int)) = false := decide_eq_false z;have HLG := Hh hlong;have nT : H w.heap.size = none := hH.none_of_ge (Nat.le_refl _);have ng : H (w.heap.size + 1) = none := hH.none_of_ge (Nat.le_succ _);have nF : H (w.heap.size + 2) = none := hH.none_of_ge (by omega);have hG := (((Grows.refl hH).alloc zeroFO).alloc (.cells (erC A l.length c 0) 70)).alloc zeroFO;have hT := ((Blk.new w 47 #[.int .i64 0, .slice none 0 0, .slice none 0 0, .slice none 0 0, .slice none 0 0]).alloc (.cells (erC A l.length c 0) 70)).alloc zeroFO;have hB := (Blk.new (w.alloc zeroFO) 70 (erC A l.length c 0)).alloc zeroFO;have hF := Blk.new ((w.alloc zeroFO).alloc (.cells (erC A l.length c 0) 70)) 47 #[.int .i64 0, .slice none 0 0, .slice none 0 0, .slice none 0 0, .slice none 0 0];rw [show (w.alloc zeroFO).heap.size = w.heap.size + 1 by simp] at hB;rw [show ((w.alloc zeroFO).alloc (.cells (erC A l.length c 0) 70)).heap.size = w.heap.size + 2 by simp] at hF
 have hT' : Blk (((w.alloc zeroFO).alloc (.cells (erC A l.length c 0) 70)).alloc zeroFO) w.heap.size 47 #[.int .i64 0, .slice none 0 0, .slice none 0 0, .slice none 0 0, .slice none 0 0] := hT;clear hlong z hT;go_enter Tryz.func17, Tryz.ntmps17
 go_upto_region 5 with fail
 generalize ((w.alloc zeroFO).alloc (.cells (erC A l.length c 0) 70)).alloc zeroFO = w1 at hG hT' hB hF ⊢
 have hT := hT';clear hT';have hR : Rdr w1 (w.heap.size + 1) H A c l 0 := ⟨hB, hl, hG.holds, ng⟩
 clear hB ng;obtain ⟨T, hTT⟩ : ∃ T, w.heap.size = T := ⟨_, rfl⟩
 obtain ⟨g, hgg⟩ : ∃ g, T + 1 = g := ⟨_, rfl⟩
 obtain ⟨F, hFF⟩ : ∃ F, g + 1 = F := ⟨_, rfl⟩
 have hF2 : T + 2 = F := by omega
 have hTw : w.heap.size ≤ T := Nat.le_of_eq hTT;have hgw : w.heap.size ≤ g := by omega
 have hFw : w.heap.size ≤ F := by omega
 have hTg : T < g := by omega
 have hgF : g < F := by omega
 rw [hTT, hgg] at hR;rw [hTT] at nT nF hT hF;rw [hF2] at nF hF;rw [hTT, hgg, hFF];clear hTT hgg hFF hF2;have IT := Hh (e_item hTab hR);go_wp2_with fail
 refine IT.out.mono ?_
 intro e w2 hs
 unfold EItem at hs
 clear IT
 cases hp : prefixP l with
 | err q1 =>
  rw [hp] at hs;obtain ⟨rfl, H2, A2, c2, hd⟩ := hs;have E : Hid (decFirst l = .error q1) := by rw [Hid]; exact decFirst_err HLG.out hp
  exact absurd (HOK.out.symm.trans E.out) (fun h => by cases h)
 | ok x k1 m1 =>
  rw [hp] at hs;obtain ⟨ja, jb, jc, jd, H2, A2, c2, rfl, hd, hi⟩ := hs;replace hG := hG.trans_but hd.grows hgw;replace nT := hd.hid nT hT.lt;replace nF := hd.hid nF hF.lt;replace hT := hT.est hd (by omega);replace hF := hF.est hd (by omega);clear hR;have hR := hd.rd;have HP := Hh hp;have HLE2 := Hh hd.grows.le;have HKL1 := Hh (prefix_spec hp).1;have HXN := Hh hi.bounds.2.2.1;clear hd hp;have hX0 := Blk.new w2 31 #[.int .i64 0, .int .u64 0, .slice none 0 0, .slice none 0 0];have nX := hG.holds.none_of_ge (Nat.le_refl w2.heap.size);have hFX := hF.lt;have hXw : w.heap.size ≤ w2.heap.size := hG.size;replace hG := hG.alloc zeroO;replace hR := hR.alloc zeroO;replace hT := hT.alloc zeroO;replace hF := hF.alloc zeroO;go_wp2_with (with_reducible refine stop_store ?_)
  refine stI hX0 fun v11 hX hg' => ?_
  replace hG := hG.grownOwn nX hXw hg';replace hR := hR.grown hg' (by omega) nX;replace hT := hT.gr hg' (by omega);replace hF := hF.gr hg' (by omega);obtain ⟨X, hXX⟩ : ∃ X, w2.heap.size = X := ⟨_, rfl⟩
  rw [hXX] at hX nX hFX hXw ⊢;clear hXX hg' hX0;have b0 := hX.cell 0 rfl;have b1 := hX.cell 1 rfl;have b2 := hX.cell 2 rfl;have b3 := hX.cell 3 rfl;obtain ⟨kd, hkd⟩ : ∃ kd, x.kind = kd := ⟨_, rfl⟩
  obtain ⟨xn, hxn⟩ : ∃ xn, x.n = xn := ⟨_, rfl⟩
  rw [hkd] at b0;rw [hxn] at b1;have HKD := Hh (And.intro hkd hxn);rw [hxn] at HXN;obtain ⟨cv, hcv⟩ : ∃ cv, IntKind.i64.wrap (xn : Int) = cv := ⟨_, rfl⟩
  clear hkd hxn
  by_cases h0 : kd = 0
  case neg =>
   have k0 : (kd != 0) = true := by rw [bne_iff_ne]; exact h0
   have k0' : (kd = 0) = False := eq_false h0;have E : Hid (decFirst l = .error 4) := by rw [Hid]; exact decFirst_form HLG.out HP.out (.inl (by rw [HKD.out.1]; exact h0))
   exact absurd (HOK.out.symm.trans E.out) (fun h => by cases h)
  have k0 : (kd != 0) = false := by rw [bne_eq_false_iff_eq]; exact h0
  have k0' : (kd = 0) = True := eq_true h0
  by_cases h3 : 3 < xn
  ·have z3 : (3 : Int) < (xn : Int) := by omega
   have z3d : decide ((3 : Int) < (xn : Int)) = true := decide_eq_true z3;have E : Hid (decFirst l = .error 4) := by rw [Hid]; exact decFirst_form HLG.out HP.out (.inr (by rw [HKD.out.2]; exact h3))
   exact absurd (HOK.out.symm.trans E.out) (fun h => by cases h)
  have z3 : ¬ ((3 : Int) < (xn : Int)) := by omega
  have z3d : decide ((3 : Int) < (xn : Int)) = false := decide_eq_false z3;have hcx : cv = (xn : Int) := by rw [← hcv]; exact IntWalk.i64_in _ (by omega)
  have E0 : Hid (decFirst l = d1 (xn : Int) (l.drop k1)) := by
   rw [Hid, decFirst_go HLG.out HP.out (by rw [HKD.out.1, HKD.out.2]; omega), HKD.out.2]
  clear h0 h3;subst hcx;go_wp2_with (with_reducible refine stop_store ?_)
  refine wpList_store_cell rfl _ _ _ rfl rfl F 0 (.int .i64 (xn : Int)) rfl rfl _ _ hF size_int1 (by simp) rfl fun v32 hF' hg' => ?_
  replace hG := hG.grownOwn nF hFw hg';replace hR := hR.grown hg' (by omega) nF;replace hT := hT.gr hg' (by omega);replace hX := hX.gr hg' (by omega);replace hF : Blk v32 F 47 #[.int .i64 (xn : Int), .slice none 0 0, .slice none 0 0, .slice none 0 0, .slice none 0 0] := hF';clear hF' hg';clear b0 b1 b2 b3;obtain ⟨l1, hl1⟩ : ∃ l1, l.drop k1 = l1 := ⟨_, rfl⟩
  have HL1 : Hid (l1.length ≤ 600) := by rw [Hid, ← hl1, List.length_drop]; have := HLG.out; omega
  rw [hl1] at hR E0;clear hl1 k0 k0' z3 z3d;have IT := Hh (e_item (hTab.mono HLE2.out) hR);go_wp2_with fail
  refine IT.out.mono ?_
  intro e w3 hs
  unfold EItem at hs
  clear IT
  cases hp : prefixP l1 with
  | err q2 =>
   rw [hp] at hs;obtain ⟨rfl, H3, A3, c3, hd⟩ := hs;have E : Hid (decFirst l = .error q2) := by rw [Hid, E0.out, d1, hp]
   exact absurd (HOK.out.symm.trans E.out) (fun h => by cases h)
  | ok y k2 m2 =>
   rw [hp] at hs;obtain ⟨ka, kb, kc, kd2, H3, A3, c3, rfl, hd, hi3⟩ := hs;replace hG := hG.trans_but hd.grows hgw;replace nT := hd.hid nT hT.lt;replace nF := hd.hid nF hF.lt;replace hT := hT.est hd (by omega);replace hF := hF.est hd (by omega);replace nX := hd.hid nX hX.lt;replace hX := hX.est hd (by omega);clear hR;have hR := hd.rd;have HP2 := Hh hp;have HLE3 := Hh (HLE2.out.trans hd.grows.le);have HML := Hh (show y.items.length ≤ 4096 by have h1 := (prefix_spec hp).2.2.2.2.2.2; have := items_cnt y; omega);clear hd hp;go_wp2_with (with_reducible refine stop_store ?_)
   refine stI hX fun v40 hX' hg' => ?_
   replace hG := hG.grownOwn nX hXw hg';replace hR := hR.grown hg' (by omega) nX;replace hT := hT.gr hg' (by omega);replace hF := hF.gr hg' (by omega);replace hX := hX';clear hX' hg';have b0 := hX.cell 0 rfl;have b1 := hX.cell 1 rfl;have b2 := hX.cell 2 rfl;have b3 := hX.cell 3 rfl;have a1 := hR.blk.cell 1 rfl;have SU := Hh (fun (W : World) (hW : Holds W H3) => e_suites W hW hi3 HML.out);obtain ⟨l2, hl2⟩ : ∃ l2, l1.drop k2 = l2 := ⟨_, rfl⟩
   have HL2 : Hid (l2.length ≤ 600) := by rw [Hid, ← hl2, List.length_drop]; have := HL1.out; omega
   have E1 : Hid (decFirst l = match suitesE y with | .error e => .error e | .ok su => d2 (xn : Int) su l2) := by rw [Hid, E0.out, d1, HP2.out, ← hl2]; simp only; cases suitesE y <;> rfl
   rw [hl2] at hR;clear hl2 E0;go_wp2_with fail
   refine (SU.out _ hG.holds).mono ?_
   intro e w4 hs
   unfold IntsOut at hs
   clear SU b0 b1 b2 b3 a1
   cases hsu : suitesE y with
   | error q3 =>
    rw [hsu] at hs;obtain ⟨rfl, hb⟩ := hs;have E : Hid (decFirst l = .error q3) := by rw [Hid, E1.out, hsu]
    exact absurd (HOK.out.symm.trans E.out) (fun h => by cases h)
   | ok su =>
    rw [hsu] at hs;obtain ⟨SA, sc, H4, rfl, hGs, hsr⟩ := hs;have E2 : Hid (decFirst l = d2 (xn : Int) su l2) := by rw [Hid, E1.out, hsu]
    clear hsu E1;have hd := (Est.refl hR).grown hGs;replace hG := hG.trans_but hd.grows hgw;replace nT := hd.hid nT hT.lt;replace nF := hd.hid nF hF.lt;replace hT := hT.est hd (by omega);replace hF := hF.est hd (by omega);replace nX := hd.hid nX hX.lt;replace hX := hX.est hd (by omega);clear hR;have hR := hd.rd;have HLE4 := Hh (HLE3.out.trans hGs.le);clear hd hGs;have FL0 := e_fail hR.blk 0;rw [if_pos rfl] at FL0;have FL := Hh (show Calls Tryz.prog 36 #[.pointer (some ⟨g, 0, none⟩), .int .i64 0] w4 _ from FL0);clear FL0;go_wp2_with fail
    refine FL.out.mono ?_
    rintro e v49 ⟨⟨vv, rfl⟩, hB', hg'⟩
    clear FL;replace hG := hG.grownOwn hR.apart hgw hg';have hR' : Rdr v49 g _ _ _ _ _ := ⟨hB', hR.bytes, hG.holds, hR.apart⟩
    replace hT := hT.gr hg' (by omega);replace hF := hF.gr hg' (by omega);replace hX := hX.gr hg' (by omega);replace hR := hR';clear hR' hB' hg';go_wp2_with (with_reducible refine stop_store ?_)
    refine wpList_store_cell rfl _ _ _ rfl rfl F 1 (.slice SA su.length sc) rfl rfl _ _ hF size_ints (by simp) rfl fun v50 hF' hg' => ?_
    replace hG := hG.grownOwn nF hFw hg';replace hR := hR.grown hg' (by omega) nF;replace hT := hT.gr hg' (by omega);replace hX := hX.gr hg' (by omega);replace hF : Blk v50 F 47 #[.int .i64 (xn : Int), .slice SA su.length sc, .slice none 0 0, .slice none 0 0, .slice none 0 0] := hF';clear hF' hg';have IT := Hh (e_bytes (hTab.mono HLE4.out) hR);go_wp2_with fail
    refine IT.out.mono ?_
    intro e w5 hs
    unfold PartOut at hs
    clear IT
    cases hb : bytesE l2 with
    | error q4 =>
     rw [hb] at hs;obtain ⟨GA, gn, gc, H5, A5, c5, l5, rfl, hd⟩ := hs;have E : Hid (decFirst l = .error q4) := by rw [Hid, E2.out, d2, hb]
     exact absurd (HOK.out.symm.trans E.out) (fun h => by cases h)
    | ok r =>
     obtain ⟨gx, k3⟩ := r;rw [hb] at hs;obtain ⟨GA, gc, H5, A5, c5, rfl, hd, hgx⟩ := hs;obtain ⟨l3, hl3⟩ : ∃ l3, l2.drop k3 = l3 := ⟨_, rfl⟩
     have HL3 : Hid (l3.length ≤ 600) := by rw [Hid, ← hl3, List.length_drop]; have := HL2.out; omega
     have E3 : Hid (decFirst l = d3 (xn : Int) su gx l3) := by rw [Hid, E2.out, d2, hb, ← hl3]
     rw [hl3] at hd;clear hb hl3 E2;replace hG := hG.trans_but hd.grows hgw;replace nT := hd.hid nT hT.lt;replace nF := hd.hid nF hF.lt;replace hT := hT.est hd (by omega);replace hF := hF.est hd (by omega);replace nX := hd.hid nX hX.lt;replace hX := hX.est hd (by omega);clear hR;have hR := hd.rd;have HLE5 := Hh (HLE4.out.trans hd.grows.le);have HSR5 := Hh (hsr.mono hd.grows.le);clear hd hsr;go_wp2_with (with_reducible refine stop_store ?_)
     refine wpList_store_cell rfl _ _ _ rfl rfl F 2 (.slice GA gx.length gc) rfl rfl _ _ hF size_bytes (by simp) rfl fun v56 hF' hg' => ?_
     replace hG := hG.grownOwn nF hFw hg';replace hR := hR.grown hg' (by omega) nF;replace hT := hT.gr hg' (by omega);replace hX := hX.gr hg' (by omega);replace hF : Blk v56 F 47 #[.int .i64 (xn : Int), .slice SA su.length sc, .slice GA gx.length gc, .slice none 0 0, .slice none 0 0] := hF';clear hF' hg';have IT := Hh (e_conn hR (by have := HL3.out; omega));go_wp2_with fail
     refine IT.out.mono ?_
     intro e w6 hs
     unfold PartOut at hs
     clear IT
     cases hb : parseConn l3 with
     | error q5 =>
      rw [hb] at hs;obtain ⟨CA, cn, cc, H6, A6, c6, l6, rfl, hd⟩ := hs;have E : Hid (decFirst l = .error q5) := by rw [Hid, E3.out, d3, hb]
      exact absurd (HOK.out.symm.trans E.out) (fun h => by cases h)
     | ok r =>
      obtain ⟨cn, k4⟩ := r;rw [hb] at hs;obtain ⟨CA, cc, H6, A6, c6, rfl, hd, hcn⟩ := hs;obtain ⟨l4, hl4⟩ : ∃ l4, l3.drop k4 = l4 := ⟨_, rfl⟩
      have E4 : Hid (decFirst l = d4 (xn : Int) su gx cn l4) := by rw [Hid, E3.out, d3, hb, ← hl4]
      rw [hl4] at hd;clear hb hl4 E3;replace hG := hG.trans_but hd.grows hgw;replace nT := hd.hid nT hT.lt;replace nF := hd.hid nF hF.lt;replace hT := hT.est hd (by omega);replace hF := hF.est hd (by omega);replace nX := hd.hid nX hX.lt;replace hX := hX.est hd (by omega);clear hR;have hR := hd.rd;have HLE6 := Hh (HLE5.out.trans hd.grows.le);have HSR6 := Hh (HSR5.out.mono hd.grows.le);have HGX6 := Hh (hgx.mono hd.grows.le);clear hd hgx HSR5;go_wp2_with (with_reducible refine stop_store ?_)
      refine wpList_store_cell rfl _ _ _ rfl rfl F 3 (.slice CA cn.length cc) rfl rfl _ _ hF size_bytes (by simp) rfl fun v60 hF' hg' => ?_
      replace hG := hG.grownOwn nF hFw hg';replace hR := hR.grown hg' (by omega) nF;replace hT := hT.gr hg' (by omega);replace hX := hX.gr hg' (by omega);replace hF : Blk v60 F 47 #[.int .i64 (xn : Int), .slice SA su.length sc, .slice GA gx.length gc, .slice CA cn.length cc, .slice none 0 0] := hF';clear hF' hg';have IT := Hh (e_ext (hTab.mono HLE6.out) hR);go_wp2_with fail
      refine IT.out.mono ?_
      intro e w7 hs
      unfold RestOut at hs
      clear IT
      cases hb : decExt l4 with
      | error q6 =>
       rw [hb] at hs;obtain ⟨H7, A7, c7, l7, rfl, hd⟩ := hs;have E : Hid (decFirst l = .error q6) := by rw [Hid, E4.out, d4, hb]
       exact absurd (HOK.out.symm.trans E.out) (fun h => by cases h)
      | ok ext =>
       rw [hb] at hs;obtain ⟨EA, ec, H7, A7, c7, l7, rfl, hd, hex⟩ := hs;have E : Hid (decFirst l = .ok ⟨(xn : Int), su, gx, cn, ext⟩) := by rw [Hid, E4.out, d4, hb]
       clear hb E4;replace hG := hG.trans_but hd.grows hgw;replace nT := hd.hid nT hT.lt;replace nF := hd.hid nF hF.lt;replace hT := hT.est hd (by omega);replace hF := hF.est hd (by omega);replace nX := hd.hid nX hX.lt;replace hX := hX.est hd (by omega);clear hR;have hR := hd.rd;have HFA : Hid (FirstA H7 ⟨(xn : Int), su, gx, cn, ext⟩ SA sc GA gc CA cc EA ec) := ⟨HSR6.out.mono hd.grows.le, HGX6.out.mono hd.grows.le, hcn.mono hd.grows.le, hex⟩
       clear hd hcn hex HSR6 HGX6;go_wp2_with (with_reducible refine stop_store ?_)
       refine wpList_store_cell rfl _ _ _ rfl rfl F 4 (.slice EA ext.length ec) rfl rfl _ _ hF size_exts (by simp) rfl fun v62 hF' hg' => ?_
       replace hG := hG.grownOwn nF hFw hg';replace hR := hR.grown hg' (by omega) nF;replace hT := hT.gr hg' (by omega);replace hX := hX.gr hg' (by omega);replace hF : Blk v62 F 47 #[.int .i64 (xn : Int), .slice SA su.length sc, .slice GA gx.length gc, .slice CA cn.length cc, .slice EA ext.length ec] := hF';clear hF' hg';have a1 := hR.blk.cell 1 rfl;have f0 := hF.cell 0 rfl;have f1 := hF.cell 1 rfl;have f2 := hF.cell 2 rfl;have f3 := hF.cell 3 rfl;have f4 := hF.cell 4 rfl;go_wp2_with (with_reducible refine stop_store ?_)
       refine wpList_store_item rfl _ _ _ rfl rfl _ _ rfl rfl _ _ hT size_first rfl (one5 _ _ _ _ _ rfl rfl rfl rfl rfl) fun wz hTz hgz => ?_
       have hGz := hG.grownOwn nT hTw hgz;go_wp2_with fail
       refine ret_row_tmp rfl rfl hTz rfl rfl size_first rfl ?_
       exact FirstOut.ok E.out rfl hGz HFA.out
end Go.Proofs.YtlebpackbfcfeaaGreatDoor
