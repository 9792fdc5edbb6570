/- squeezed. Walks: the item of claims, by the  -/
import Derived.Test.YtgaoknihklmakaaGreatDoorK18
import Derived.Test.YtgaoknihklmakaaGreatDoorK16
import Derived.Test.YtgaoknihklmakaaGreatDoorK17
import Derived.Test.YtgaoknihklmakaaGreatDoorK09
import Derived.Test.YtgaoknihklmakaaGreatDoorK08
import Derived.Test.YtgaoknihklmakaaGreatDoorK03
import Derived.Test.YtgaoknihklmakaaGreatDoorK01
import Derived.Test.YtgaoknihklmakaaGreatDoorK02
import Derived.Test.YtgaoknihklmakaaGreatDoorK06
import Derived.Test.YtgaoknihklmakaaGreatDoorK10
import Derived.Test.YtgaoknihklmakaaGreatDoorK00
import Derived.Test.YtgaoknihklmakaaGreatDoorK14
set_option linter.unusedVariables false
set_option linter.unusedSimpArgs false
set_option maxRecDepth 100000
set_option maxHeartbeats 25600000
namespace Go.Proofs.YtgaoknihklmakaaGreatDoor
open Go.RowKit
structure IS (W0 : World) (H : Snap) (cc : Array Value) (v : Value) (L : List Itm) (w : World) (Hr : Snap) : Prop where
 grows : Grows W0 H w Hr
 hB : Hr W0.heap.size = none
 hT : Hr (W0.heap.size + 1) = none
 box : Blk w W0.heap.size 62 cc
 res : Blk w (W0.heap.size + 1) 75 zeroC
 own : OwnI w (W0.heap.size + 2) v Hr L
 apart : ∀ g, v.ownBlock = some g → Hr g = none
section
variable {W0 w w' : World} {H Hr Hs : Snap} {cc : Array Value} {v v' : Value} {L news : List Itm}
theorem IS.grow (h : IS W0 H cc v L w Hr) (k : Grows w Hr w' Hs) : IS W0 H cc v L w' Hs :=
 ⟨h.grows.trans k, k.none h.hB h.box.lt, k.none h.hT h.res.lt, h.box.below k.below, h.res.below k.below, (h.own.below k.below).mono k.le, fun g hg => k.none (h.apart g hg) (h.own.lt g hg).2⟩
theorem IS.below (h : IS W0 H cc v L w Hr) (k : Below w.heap.size w w') : IS W0 H cc v L w' Hr := h.grow (Grows.of_below h.grows.holds k)
theorem IS.alloc (h : IS W0 H cc v L w Hr) (o : Obj) : IS W0 H cc v L (w.alloc o) Hr := h.below (below_box w o)
theorem IS.drew (h : IS W0 H cc v L w Hr) : IS W0 H cc v L w.drew Hr := h.below (Below.refl _ _).drew
theorem IS.base (h : IS W0 H cc v L w Hr) : W0.heap.size + 2 ≤ w.heap.size := by have := h.res.lt; omega
theorem IS.litZ (h : IS W0 H cc v L w Hr) (cs : Array Value) (e : TypeId) : Src (w.alloc (.cells cs e)) (some ⟨w.heap.size, 0, none⟩) cs.toList := Src.lit w cs e
theorem IS.app (h : IS W0 H cc v L w Hr) (hO : OwnI w' (W0.heap.size + 2) v' Hr (L ++ news)) (hg : w.grownBy w' v.ownBlock) (ha : At0 w v.ownBlock v'.ownBlock) : IS W0 H cc v' (L ++ news) w' Hr :=
 ⟨h.grows.grownRow h.apart (fun g hg => by have := (h.own.lt g hg).1; omega) hg, h.hB, h.hT, h.box.grown hg (fun e => by have := (h.own.lt _ e).1; omega), h.res.grown hg (fun e => by have := (h.own.lt _ e).1; omega), hO, fun g hv => by
  rcases ha with e | ⟨g', e, hs⟩
  ·exact h.apart g (by rw [← e, hv])
  ·rw [hv] at e;injection e with e
   subst e
   exact h.grows.hidden hs⟩
theorem IS.nil (hG : Grows W0 H w Hr) (hK : Hr W0.heap.size = none) (hT : Hr (W0.heap.size + 1) = none) (hk : Blk w W0.heap.size 62 cc) (hr : Blk w (W0.heap.size + 1) 75 zeroC) : IS W0 H cc (.slice none 0 0) [] w Hr :=
 ⟨hG, hK, hT, hk, hr, OwnI.nil _ _ _, fun g hg => by simp [Value.ownBlock] at hg⟩
theorem IS.freeze {A : Option Addr} {m c : Nat} (h : IS W0 H cc (.slice A m c) L w Hr) : ∃ H', Grows W0 H w H' ∧ m = L.length ∧ IsRowI H' A c L ∧ H' (W0.heap.size + 1) = none := by
 obtain ⟨H', hl, hh, hf, rfl, hle1, hle2, hel⟩ := h.own.snap h.grows.holds (fun g hg => h.apart g (by cases A <;> simp_all [Value.ownBlock]))
 refine ⟨H', ⟨h.grows.below, h.grows.le.trans hl, hh, fun b o hb => ?_⟩, rfl, ⟨hle1, hle2, hel⟩, ?_⟩
 ·rcases hf b o hb with h1 | h1
  ·exact h.grows.fresh b o h1
  ·exact .inr (by have := (h.own.lt b (by cases A <;> simp_all [Value.ownBlock])).1; omega)
 ·cases hx : H' (W0.heap.size + 1) with
  | none => rfl
  | some o =>
   rcases hf _ o hx with h1 | h1
   ·rw [h.hT] at h1; cases h1
   ·have := (h.own.lt (W0.heap.size + 1) (by cases A <;> simp_all [Value.ownBlock])).1
    omega
end
def ISt (W0 : World) (H : Snap) (cc : Array Value) (v : Value) (L : List Itm) (w : World) : Prop := ∃ Hr A m c, v = .slice A m c ∧ m = L.length ∧ IS W0 H cc (.slice A m c) L w Hr
theorem ISt.box {W0 w : World} {H : Snap} {cc : Array Value} {v : Value} {L : List Itm} (h : ISt W0 H cc v L w) : Blk w W0.heap.size 62 cc := by
 obtain ⟨Hr, A, m, c, _, _, hP⟩ := h
 exact hP.box
theorem buildC_out {w w' : World} {H : Snap} {c : Cl} {e : Ending} (hv : validC c = true) (h : BuildSaid2 w H (pairsC c) e w') : ∃ xa xb xc xd H6, e = .returned (.tuple #[itemV (.mk 5 0 [] (pairsC c)) xa xb xc xd, .int .i64 0]) ∧ Grows w H w' H6 ∧ IsItem H6 xa xb xc xd (.mk 5 0 [] (pairsC c)) := by
 obtain ⟨v, h⟩ := h
 rcases h with ⟨l, rfl, ⟨xa, xb, xc, xd, H6, rfl, hG6, hI6⟩, _, _, hl⟩ | ⟨_, _, _, _, hno⟩
 ·obtain rfl := hl (buildC hv).2.1
  exact ⟨xa, xb, xc, xd, H6, rfl, hG6, hI6⟩
 ·exact absurd (buildC hv) hno
def ItemCOut (w : World) (H : Snap) (c : Cl) (e : Ending) (w' : World) : Prop := ∃ v, e = .returned v ∧ Gives w H (itmCl c) v w'
theorem ref21_item {H : Snap} (hTab : Tabs H) {c : Cl} {a : KAd} (hc : ClA H c a) (hval : validC c = true) (w : World) (hH : Holds w H) :
  Calls Tryz.prog 32 #[.agg (clQ c a)] w (ItemCOut w H c) := by
 have hP := IS.nil (((Grows.refl hH).alloc (.cells (clQ c a) 62)).alloc (.cells zeroC 75)) (hH.none_of_ge (Nat.le_refl _)) (hH.none_of_ge (by omega)) ((Blk.new w 62 (clQ c a)).alloc (.cells zeroC 75)) (by have h := Blk.new (w.alloc (.cells (clQ c a) 62)) 75 zeroC; rw [size_alloc] at h; exact h);have HC := Hh hc;have HT := Hh hTab;have HV := Hh hval;have HVI := Hh ((validC_iff c).1 hval);have c0 : ((w.alloc (.cells (clQ c a) 62)).alloc (.cells zeroC 75)).cell? ⟨w.heap.size, 0, none⟩ = some (.string c.issuer) := hP.box.cell 0 rfl;clear hc hH hTab hval;go_enter Tryz.func32, Tryz.ntmps32
 obtain ⟨W1, hW1⟩ : ∃ W1, (w.alloc (.cells (clQ c a) 62)).alloc (.cells zeroC 75) = W1 := ⟨_, rfl⟩
 go_upto_region 2 with fail
 rw [hW1] at hP c0;clear hW1;go_upto_if 10 with fail
 go_cut [3] (fun s3 wx => ISt w H (clQ c a) s3 (issL c.issuer) wx)
 case first =>
  by_cases hs : c.issuer = ⟨#[]⟩
  case pos =>
   have s2 : c.issuer.toList.isEmpty = true := (empty_iff _).2 hs;have E : Hid (issL c.issuer = []) := if_pos hs;have hS : ISt w H (clQ c a) (.slice none 0 0) [] W1 := ⟨_, _, _, _, rfl, rfl, hP⟩
   have HS := Hh hS;clear hS hs hP
   simp only [s2, Bool.not_true]
   go_wp2_with fail
   go_meet
   rw [E.out]
   exact HS.out
  have s2 : c.issuer.toList.isEmpty = false := by cases h : c.issuer.toList.isEmpty with | false => rfl | true => exact absurd ((empty_iff _).1 h) hs
  simp only [s2, Bool.not_false]
  obtain ⟨LL, hLL⟩ : ∃ LL : List Itm, LL = [] := ⟨_, rfl⟩
  rw [← hLL] at hP;have HLE := Hh hLL;have HL : Hid (0 = LL.length ∧ LL.length ≤ 1000) := by rw [hLL]; exact ⟨rfl, by simp⟩
  have E : Hid (issL c.issuer = LL ++ [intP 1, txtI c.issuer]) := by rw [hLL]; exact if_neg hs
  clear hLL hs;clear c0;go_upto_region 3 with fail
  have c0 : World.cell? _ ⟨w.heap.size, 0, none⟩ = some (.string c.issuer) := hP.box.cell 0 rfl;replace hP := hP.drew
  refine wp_region_waysZ 6 (fun wx => wx.cell? ⟨w.heap.size, 0, none⟩ = some (.string c.issuer)) (by kernel_rfl) (c0) (fun hHeld => ?_)
  refine Zk 0 rfl hHeld ?_
  refine Zk 2 rfl hHeld ?_
  refine Zk 3 rfl hHeld ?_
  refine Zo 1 rfl fun K hK => ?_
  go_simp
  refine (ref_Int (1) (by omega) (by omega) _ hP.grows.holds).mono ?_
  rintro e w3 ⟨v1, rfl, xa1, xb1, xc1, xd1, H1, rfl, hG1, hI1⟩
  have hP := hP.grow hG1
  refine Ko hK ?_ fun hHeld => ?_
  ·exact hP.box.cell 0 rfl
  clear hK K
  refine Zo 4 rfl fun K hK => ?_
  go_simp
  refine (ref_Text c.issuer (by have := named_size HVI.out.1; omega) _ hP.grows.holds).mono ?_
  rintro e w4 ⟨v2, rfl, xa2, xb2, xc2, xd2, H2, rfl, hG2, hI2⟩
  have hP := hP.grow hG2;have hI1 := hI1.mono hG2.le
  refine Ko hK ?_ fun hHeld => ?_
  ·exact hP.box.cell 0 rfl
  clear hK K
  refine Zo 5 rfl fun K hK => ?_
  go_simp
  have hZ := hP.litZ (itemC (intP (1)) xa1 xb1 xc1 xd1 ++ itemC (txtI c.issuer) xa2 xb2 xc2 xd2).toArray 75;have hP := hP.alloc (.cells (itemC (intP (1)) xa1 xb1 xc1 xd1 ++ itemC (txtI c.issuer) xa2 xb2 xc2 xd2).toArray 75)
  refine Ko hK ?_ fun hHeld => ?_
  ·exact hP.box.cell 0 rfl
  clear hK K
  refine Zo 6 rfl fun K hK => ?_
  rw [if_pos (by rfl)]
  refine wp_app_items _ _ rfl _ _ _ _ rfl hP.own _ _ _ _ [_, _] rfl rfl ((ItemsC.one hI1).app (ItemsC.one hI2)) hZ (by have := HL.out; simp; omega) hP.base fun v7 w7 hown7 hg7 hat7 => ?_
  have hP := hP.app hown7 hg7 hat7;obtain ⟨A7, c7, rfl, _⟩ := hown7.form;obtain ⟨m7, hm7⟩ : ∃ m7, (LL ++ [intP (1), (.mk 3 0 c.issuer.data.toList [])]).length = m7 := ⟨_, rfl⟩
  rw [hm7] at hP ⊢;have HM7 := Hh hm7;clear hown7 hg7 hat7 hZ hm7
  refine Kz hK ?_
  clear hK K
  refine ZkT 7 rfl (fun h => absurd h (by decide)) ?_
  refine WaysZ.done (by kernel_rfl) ?_
  clear hHeld;go_wp2_with fail
  go_meet
  exact (by rw [E.out]; exact ⟨_, _, _, _, rfl, HM7.out.symm, hP⟩)
 case rest =>
  clear hP c0;have hS := hcut;clear hcut;have HLq : Hid ((issL c.issuer).length ≤ 1000) := by rw [Hid, issL]; split <;> simp
  go_upto_region 4 with fail
  go_cut [3] (fun s3 wx => ISt w H (clQ c a) s3 (issL c.issuer ++ [intP 2, txtI c.subject]) wx)
  case first =>
   obtain ⟨LL, hLL⟩ : ∃ LL, LL = issL c.issuer := ⟨_, rfl⟩
   rw [← hLL] at hS HLq;have HLE := Hh hLL;clear hLL;obtain ⟨Hr, VA, m, vc, rfl, hm, hP⟩ := hS;have HL := Hh (And.intro hm HLq.out);clear hm;have c1 : World.cell? _ ⟨w.heap.size, 1, none⟩ = some (.string c.subject) := hP.box.cell 1 rfl;replace hP := hP.drew
   refine wp_region_waysZ 6 (fun wx => wx.cell? ⟨w.heap.size, 1, none⟩ = some (.string c.subject)) (by kernel_rfl) (c1) (fun hHeld => ?_)
   refine Zk 0 rfl hHeld ?_
   refine Zk 2 rfl hHeld ?_
   refine Zk 3 rfl hHeld ?_
   refine Zo 1 rfl fun K hK => ?_
   go_simp
   refine (ref_Int (2) (by omega) (by omega) _ hP.grows.holds).mono ?_
   rintro e w3 ⟨v1, rfl, xa1, xb1, xc1, xd1, H1, rfl, hG1, hI1⟩
   have hP := hP.grow hG1
   refine Ko hK ?_ fun hHeld => ?_
   ·exact hP.box.cell 1 rfl
   clear hK K
   refine Zo 4 rfl fun K hK => ?_
   go_simp
   refine (ref_Text c.subject (by have := named_size HVI.out.2.1; omega) _ hP.grows.holds).mono ?_
   rintro e w4 ⟨v2, rfl, xa2, xb2, xc2, xd2, H2, rfl, hG2, hI2⟩
   have hP := hP.grow hG2;have hI1 := hI1.mono hG2.le
   refine Ko hK ?_ fun hHeld => ?_
   ·exact hP.box.cell 1 rfl
   clear hK K
   refine Zo 5 rfl fun K hK => ?_
   go_simp
   have hZ := hP.litZ (itemC (intP (2)) xa1 xb1 xc1 xd1 ++ itemC (txtI c.subject) xa2 xb2 xc2 xd2).toArray 75;have hP := hP.alloc (.cells (itemC (intP (2)) xa1 xb1 xc1 xd1 ++ itemC (txtI c.subject) xa2 xb2 xc2 xd2).toArray 75)
   refine Ko hK ?_ fun hHeld => ?_
   ·exact hP.box.cell 1 rfl
   clear hK K
   refine Zo 6 rfl fun K hK => ?_
   rw [if_pos (by rfl)]
   refine wp_app_items _ _ rfl _ _ _ _ rfl hP.own _ _ _ _ [_, _] rfl rfl ((ItemsC.one hI1).app (ItemsC.one hI2)) hZ (by have := HL.out; simp; omega) hP.base fun v7 w7 hown7 hg7 hat7 => ?_
   have hP := hP.app hown7 hg7 hat7;obtain ⟨A7, c7, rfl, _⟩ := hown7.form;obtain ⟨m7, hm7⟩ : ∃ m7, (LL ++ [intP (2), (.mk 3 0 c.subject.data.toList [])]).length = m7 := ⟨_, rfl⟩
   rw [hm7] at hP ⊢;have HM7 := Hh hm7;clear hown7 hg7 hat7 hZ hm7
   refine Kz hK ?_
   clear hK K
   refine ZkT 7 rfl (fun h => absurd h (by decide)) ?_
   refine WaysZ.done (by kernel_rfl) ?_
   clear hHeld;go_wp2_with fail
   go_meet
   exact (by rw [← HLE.out]; exact ⟨_, _, _, _, rfl, HM7.out.symm, hP⟩)
  case rest =>
   clear hS HLq;have hS := hcut;clear hcut;have HLq : Hid ((issL c.issuer ++ [intP 2, txtI c.subject]).length ≤ 1000) := by rw [Hid, issL]; split <;> simp
   have c3 : World.cell? _ ⟨w.heap.size, 3, none⟩ = some (.int .i64 c.till) := hS.box.cell 3 rfl;go_upto_if 27 with fail
   go_cut [3] (fun s3 wx => ISt w H (clQ c a) s3 (issL c.issuer ++ [intP 2, txtI c.subject] ++ tickL 4 c.till) wx)
   case first =>
    by_cases h0 : 0 < c.till
    case neg =>
     have E : Hid (issL c.issuer ++ [intP 2, txtI c.subject] ++ tickL 4 c.till = issL c.issuer ++ [intP 2, txtI c.subject]) := by rw [Hid, show tickL 4 c.till = [] from if_neg h0, List.append_nil]
     have hi1 : decide (0 < c.till) = false := decide_eq_false h0;have HS := Hh hS;clear hS;go_wp2_with fail
     go_meet
     rw [E.out]
     exact HS.out
    have hi1 : decide (0 < c.till) = true := decide_eq_true h0;have E : Hid (issL c.issuer ++ [intP 2, txtI c.subject] ++ tickL 4 c.till = issL c.issuer ++ [intP 2, txtI c.subject] ++ [intP 4, intP c.till]) := by rw [Hid, show tickL 4 c.till = [intP 4, intP c.till] from if_pos h0]
    obtain ⟨LL, hLL⟩ : ∃ LL, LL = issL c.issuer ++ [intP 2, txtI c.subject] := ⟨_, rfl⟩
    rw [← hLL] at hS HLq;have HLE := Hh hLL;clear hLL;obtain ⟨Hr, VA, m, vc, rfl, hm, hP⟩ := hS;have HL := Hh (And.intro hm HLq.out);clear hm;clear c3;go_upto_region 6 with fail
    clear h0 hi1;have c3 : World.cell? _ ⟨w.heap.size, 3, none⟩ = some (.int .i64 c.till) := hP.box.cell 3 rfl;replace hP := hP.drew
    refine wp_region_waysZ 6 (fun wx => wx.cell? ⟨w.heap.size, 3, none⟩ = some (.int .i64 c.till)) (by kernel_rfl) (c3) (fun hHeld => ?_)
    refine Zk 0 rfl hHeld ?_
    refine Zk 2 rfl hHeld ?_
    refine Zk 3 rfl hHeld ?_
    refine Zo 1 rfl fun K hK => ?_
    go_simp
    refine (ref_Int (4) (by omega) (by omega) _ hP.grows.holds).mono ?_
    rintro e w3 ⟨v1, rfl, xa1, xb1, xc1, xd1, H1, rfl, hG1, hI1⟩
    have hP := hP.grow hG1
    refine Ko hK ?_ fun hHeld => ?_
    ·exact hP.box.cell 3 rfl
    clear hK K
    refine Zo 4 rfl fun K hK => ?_
    go_simp
    refine (ref_Int c.till HC.out.till.1 HC.out.till.2 _ hP.grows.holds).mono ?_
    rintro e w4 ⟨v2, rfl, xa2, xb2, xc2, xd2, H2, rfl, hG2, hI2⟩
    have hP := hP.grow hG2;have hI1 := hI1.mono hG2.le
    refine Ko hK ?_ fun hHeld => ?_
    ·exact hP.box.cell 3 rfl
    clear hK K
    refine Zo 5 rfl fun K hK => ?_
    go_simp
    have hZ := hP.litZ (itemC (intP (4)) xa1 xb1 xc1 xd1 ++ itemC (intP c.till) xa2 xb2 xc2 xd2).toArray 75;have hP := hP.alloc (.cells (itemC (intP (4)) xa1 xb1 xc1 xd1 ++ itemC (intP c.till) xa2 xb2 xc2 xd2).toArray 75)
    refine Ko hK ?_ fun hHeld => ?_
    ·exact hP.box.cell 3 rfl
    clear hK K
    refine Zo 6 rfl fun K hK => ?_
    rw [if_pos (by rfl)]
    refine wp_app_items _ _ rfl _ _ _ _ rfl hP.own _ _ _ _ [_, _] rfl rfl ((ItemsC.one hI1).app (ItemsC.one hI2)) hZ (by have := HL.out; simp; omega) hP.base fun v7 w7 hown7 hg7 hat7 => ?_
    have hP := hP.app hown7 hg7 hat7;obtain ⟨A7, c7, rfl, _⟩ := hown7.form;obtain ⟨m7, hm7⟩ : ∃ m7, (LL ++ [intP (4), (intP c.till)]).length = m7 := ⟨_, rfl⟩
    rw [hm7] at hP ⊢;have HM7 := Hh hm7;clear hown7 hg7 hat7 hZ hm7
    refine Kz hK ?_
    clear hK K
    refine ZkT 7 rfl (fun h => absurd h (by decide)) ?_
    refine WaysZ.done (by kernel_rfl) ?_
    clear hHeld;go_wp2_with fail
    go_meet
    exact (by rw [E.out, ← HLE.out]; exact ⟨_, _, _, _, rfl, HM7.out.symm, hP⟩)
   case rest =>
    clear hS HLq c3;have hS := hcut;clear hcut;have HLq : Hid ((issL c.issuer ++ [intP 2, txtI c.subject] ++ tickL 4 c.till).length ≤ 1000) := by rw [Hid, issL, tickL]; split <;> split <;> simp
    have c2 : World.cell? _ ⟨w.heap.size, 2, none⟩ = some (.int .i64 c.since) := hS.box.cell 2 rfl;go_upto_if 37 with fail
    go_cut [3] (fun s3 wx => ISt w H (clQ c a) s3 (issL c.issuer ++ [intP 2, txtI c.subject] ++ tickL 4 c.till ++ tickL 5 c.since) wx)
    case first =>
     by_cases h0 : 0 < c.since
     case neg =>
      have E : Hid (issL c.issuer ++ [intP 2, txtI c.subject] ++ tickL 4 c.till ++ tickL 5 c.since = issL c.issuer ++ [intP 2, txtI c.subject] ++ tickL 4 c.till) := by rw [Hid, show tickL 5 c.since = [] from if_neg h0, List.append_nil]
      have hi1 : decide (0 < c.since) = false := decide_eq_false h0;have HS := Hh hS;clear hS;go_wp2_with fail
      go_meet
      rw [E.out]
      exact HS.out
     have hi1 : decide (0 < c.since) = true := decide_eq_true h0;have E : Hid (issL c.issuer ++ [intP 2, txtI c.subject] ++ tickL 4 c.till ++ tickL 5 c.since = issL c.issuer ++ [intP 2, txtI c.subject] ++ tickL 4 c.till ++ [intP 5, intP c.since]) := by rw [Hid, show tickL 5 c.since = [intP 5, intP c.since] from if_pos h0]
     obtain ⟨LL, hLL⟩ : ∃ LL, LL = issL c.issuer ++ [intP 2, txtI c.subject] ++ tickL 4 c.till := ⟨_, rfl⟩
     rw [← hLL] at hS HLq;have HLE := Hh hLL;clear hLL;obtain ⟨Hr, VA, m, vc, rfl, hm, hP⟩ := hS;have HL := Hh (And.intro hm HLq.out);clear hm;clear c2;go_upto_region 8 with fail
     clear h0 hi1;have c2 : World.cell? _ ⟨w.heap.size, 2, none⟩ = some (.int .i64 c.since) := hP.box.cell 2 rfl;replace hP := hP.drew
     refine wp_region_waysZ 6 (fun wx => wx.cell? ⟨w.heap.size, 2, none⟩ = some (.int .i64 c.since)) (by kernel_rfl) (c2) (fun hHeld => ?_)
     refine Zk 0 rfl hHeld ?_
     refine Zk 2 rfl hHeld ?_
     refine Zk 3 rfl hHeld ?_
     refine Zo 1 rfl fun K hK => ?_
     go_simp
     refine (ref_Int (5) (by omega) (by omega) _ hP.grows.holds).mono ?_
     rintro e w3 ⟨v1, rfl, xa1, xb1, xc1, xd1, H1, rfl, hG1, hI1⟩
     have hP := hP.grow hG1
     refine Ko hK ?_ fun hHeld => ?_
     ·exact hP.box.cell 2 rfl
     clear hK K
     refine Zo 4 rfl fun K hK => ?_
     go_simp
     refine (ref_Int c.since HC.out.since.1 HC.out.since.2 _ hP.grows.holds).mono ?_
     rintro e w4 ⟨v2, rfl, xa2, xb2, xc2, xd2, H2, rfl, hG2, hI2⟩
     have hP := hP.grow hG2;have hI1 := hI1.mono hG2.le
     refine Ko hK ?_ fun hHeld => ?_
     ·exact hP.box.cell 2 rfl
     clear hK K
     refine Zo 5 rfl fun K hK => ?_
     go_simp
     have hZ := hP.litZ (itemC (intP (5)) xa1 xb1 xc1 xd1 ++ itemC (intP c.since) xa2 xb2 xc2 xd2).toArray 75;have hP := hP.alloc (.cells (itemC (intP (5)) xa1 xb1 xc1 xd1 ++ itemC (intP c.since) xa2 xb2 xc2 xd2).toArray 75)
     refine Ko hK ?_ fun hHeld => ?_
     ·exact hP.box.cell 2 rfl
     clear hK K
     refine Zo 6 rfl fun K hK => ?_
     rw [if_pos (by rfl)]
     refine wp_app_items _ _ rfl _ _ _ _ rfl hP.own _ _ _ _ [_, _] rfl rfl ((ItemsC.one hI1).app (ItemsC.one hI2)) hZ (by have := HL.out; simp; omega) hP.base fun v7 w7 hown7 hg7 hat7 => ?_
     have hP := hP.app hown7 hg7 hat7;obtain ⟨A7, c7, rfl, _⟩ := hown7.form;obtain ⟨m7, hm7⟩ : ∃ m7, (LL ++ [intP (5), (intP c.since)]).length = m7 := ⟨_, rfl⟩
     rw [hm7] at hP ⊢;have HM7 := Hh hm7;clear hown7 hg7 hat7 hZ hm7
     refine Kz hK ?_
     clear hK K
     refine ZkT 7 rfl (fun h => absurd h (by decide)) ?_
     refine WaysZ.done (by kernel_rfl) ?_
     clear hHeld;go_wp2_with fail
     go_meet
     exact (by rw [E.out, ← HLE.out]; exact ⟨_, _, _, _, rfl, HM7.out.symm, hP⟩)
    case rest =>
     clear hS HLq c2;have hS := hcut;clear hcut;have HLq : Hid ((issL c.issuer ++ [intP 2, txtI c.subject] ++ tickL 4 c.till ++ tickL 5 c.since).length ≤ 1000) := by rw [Hid, issL, tickL, tickL]; split <;> split <;> split <;> simp
     obtain ⟨LL, hLL⟩ : ∃ LL, LL = issL c.issuer ++ [intP 2, txtI c.subject] ++ tickL 4 c.till ++ tickL 5 c.since := ⟨_, rfl⟩
     rw [← hLL] at hS HLq;have HLE := Hh hLL;clear hLL;obtain ⟨Hr, VA, m, vc, rfl, hm, hP⟩ := hS;have HL := Hh (And.intro hm HLq.out);clear hm;have c4 := hP.box.cell 4 rfl;have c5 := hP.box.cell 5 rfl;have c6 := hP.box.cell 6 rfl;have c7 := hP.box.cell 7 rfl;have c8 := hP.box.cell 8 rfl;have c9 := hP.box.cell 9 rfl;have c10 := hP.box.cell 10 rfl;go_upto_region 9 with fail
     go_wp2_with fail
     refine (ref11_ToItem (HT.out.mono hP.grows.le) (HC.out.key.mono hP.grows.le) _ hP.grows.holds).mono ?_
     rintro e w5 ⟨v5, rfl, hg5⟩
     have EK : Hid (codeK c.key = 0 ∧ itmK c.key = itemK c.key) := ⟨by rw [codeK, if_pos HVI.out.2.2.2.2.2.2.2.2.1], by rw [itmK, if_pos HVI.out.2.2.2.2.2.2.2.2.1]⟩
     rw [EK.out.2] at hg5;rw [EK.out.1];obtain ⟨ya, yb, yc, yd, H5, rfl, hG5, hI5⟩ := hg5;replace hP := hP.grow hG5;clear hG5 c4 c5 c6 c7 c8 c9 c10;obtain ⟨y, hy⟩ : ∃ y, y = itemK c.key := ⟨_, rfl⟩
     rw [← hy] at hI5 ⊢;have HY := Hh hy;clear hy;have hQ := Blk.new w5 75 #[.int .i64 y.kind, .int .u64 y.n, .slice ya y.bytes.length yb, .slice yc y.items.length yd];replace hP := hP.alloc (itemO y ya yb yc yd);obtain ⟨Q, hQe⟩ : ∃ Q, w5.heap.size = Q := ⟨_, rfl⟩
     obtain ⟨w6, hw6⟩ : ∃ w6, w5.alloc (itemO y ya yb yc yd) = w6 := ⟨_, rfl⟩
     rw [hQe, hw6] at hQ;rw [hw6] at hP;go_upto_region 10 with fail
     clear hQe hw6;go_cut [3] (fun s3 wx => ISt w H (clQ c a) s3 (pairsC c) wx)
     case first =>
      replace hP := hP.drew;replace hQ := hQ.below (Below.refl _ _).drew
      refine wp_region_waysZ 7 (fun wx => wx.cell? ⟨Q, 0, none⟩ = some (.int .i64 y.kind) ∧ wx.cell? ⟨Q, 1, none⟩ = some (.int .u64 y.n) ∧ wx.cell? ⟨Q, 2, none⟩ = some (.slice ya y.bytes.length yb) ∧ wx.cell? ⟨Q, 3, none⟩ = some (.slice yc y.items.length yd)) (by kernel_rfl) (⟨hQ.cell 0 rfl, hQ.cell 1 rfl, hQ.cell 2 rfl, hQ.cell 3 rfl⟩) (fun hHeld => ?_)
      refine Zk 0 rfl hHeld ?_
      refine Zk 3 rfl hHeld ?_
      refine Zo 1 rfl fun K hK => ?_
      go_simp
      refine (ref_Int 8 (by omega) (by omega) _ hP.grows.holds).mono ?_
      rintro e w7 ⟨v1, rfl, xa1, xb1, xc1, xd1, H1, rfl, hG1, hI1⟩
      have hP := hP.grow hG1;have hQ := hQ.below hG1.below;have hI5 := hI5.mono hG1.le;clear hG1
      refine Ko hK ?_ fun hHeld => ?_
      ·exact ⟨hQ.cell 0 rfl, hQ.cell 1 rfl, hQ.cell 2 rfl, hQ.cell 3 rfl⟩
      clear hK K
      refine Zo 2 rfl fun K hK => ?_
      go_simp
      refine (ref_Int 1 (by omega) (by omega) _ hP.grows.holds).mono ?_
      rintro e w8 ⟨v2, rfl, xa2, xb2, xc2, xd2, H2, rfl, hG2, hI2⟩
      have hP := hP.grow hG2;have hQ := hQ.below hG2.below;have hI5 := hI5.mono hG2.le;have hI1 := hI1.mono hG2.le;clear hG2
      refine Ko hK ?_ fun hHeld => ?_
      ·exact ⟨hQ.cell 0 rfl, hQ.cell 1 rfl, hQ.cell 2 rfl, hQ.cell 3 rfl⟩
      clear hK K
      refine Zo 4 rfl fun K hK => ?_
      go_simp
      obtain ⟨H4, hG4, hl4, hr4⟩ := lit_items (l := [intP 1, y]) (Grows.refl hP.grows.holds) ((ItemsC.one hI2).app (ItemsC.one hI5)) (by simp);have hN4 := hr4.item 5 (by omega) 0 (by omega);clear hl4 hr4;have hP := hP.grow hG4;have hI1 := hI1.mono hG4.le;have hQ := hQ.below hG4.below;clear hG4
      refine Ko hK ?_ fun hHeld => ?_
      ·exact ⟨hQ.cell 0 rfl, hQ.cell 1 rfl, hQ.cell 2 rfl, hQ.cell 3 rfl⟩
      clear hK K
      refine Zk 5 rfl hHeld ?_
      refine Zo 6 rfl fun K hK => ?_
      go_simp
      have hP := hP.alloc (.cells (itemC (intP 8) xa1 xb1 xc1 xd1 ++ itemC (.mk 5 0 [] [intP 1, y]) none 0 (some ⟨w8.heap.size, 0, none⟩) 2).toArray 75);have hQ := hQ.alloc (.cells (itemC (intP 8) xa1 xb1 xc1 xd1 ++ itemC (.mk 5 0 [] [intP 1, y]) none 0 (some ⟨w8.heap.size, 0, none⟩) 2).toArray 75)
      refine Ko hK ?_ fun hHeld => ?_
      ·exact ⟨hQ.cell 0 rfl, hQ.cell 1 rfl, hQ.cell 2 rfl, hQ.cell 3 rfl⟩
      clear hK K
      refine Zo 7 rfl fun K hK => ?_
      rw [if_pos (by rfl)]
      refine wp_app_items _ _ rfl _ _ _ _ rfl hP.own _ _ _ _ [_, _] rfl rfl ((ItemsC.one hI1).app (ItemsC.one hN4)) (Src.new _ _ _ _ (by rw [size_alloc]) _ rfl) (by have := HL.out; simp; omega) hP.base fun v9 w9 hown9 hg9 hat9 => ?_
      have hP := hP.app hown9 hg9 hat9;obtain ⟨A9, c9, rfl, _⟩ := hown9.form;obtain ⟨m9, hm9⟩ : ∃ m9, (LL ++ [intP 8, .mk 5 0 [] [intP 1, y]]).length = m9 := ⟨_, rfl⟩
      rw [hm9] at hP ⊢;have HM9 := Hh hm9;clear hown9 hg9 hat9 hm9 hQ
      refine Kz hK ?_
      clear hK K
      refine ZkT 8 rfl (fun h => absurd h (by decide)) ?_
      refine WaysZ.done (by kernel_rfl) ?_
      clear hHeld;go_wp2_with fail
      go_meet
      have EP : Hid (pairsC c = LL ++ [intP 8, .mk 5 0 [] [intP 1, y]]) := by rw [HLE.out, HY.out]; exact rfl
      exact (by rw [EP.out]; exact ⟨_, _, _, _, rfl, HM9.out.symm, hP⟩)
     case rest =>
      clear hP hQ hI5;obtain ⟨Hr2, VA2, m2, vc2, rfl, hm2, hP⟩ := hcut;obtain ⟨H9, hG9, hm9, hr9, hn9⟩ := hP.freeze;have hT := hP.res;have HB := Hh (ref_Build2 (HT.out.mono hG9.le) hr9 (by have := (pairsC_len c).2.2; omega) _ hG9.holds);rw [← hm2] at HB;clear hP hr9 hm9 hm2;go_wp2_with fail
      refine HB.out.mono ?_
      intro e w10 h10
      obtain ⟨xa, xb, xc, xd, H6, rfl, hG6, hI6⟩ := buildC_out HV.out h10;clear h10 HB;have hG7 := hG9.trans hG6;have hn6 := hG6.none hn9 hT.lt;replace hT := hT.below hG6.below;clear hG6 hG9 hn9;replace hT := hT.alloc (itemO (.mk 5 0 [] (pairsC c)) xa xb xc xd);replace hG7 := hG7.alloc (itemO (.mk 5 0 [] (pairsC c)) xa xb xc xd);go_upto_region 12 with fail
      go_wp2_with (with_reducible refine stop_store ?_)
      refine stI hT fun w11 hT11 hg11 => ?_
      have hG11 := hG7.grownOwn hn6 (by omega) hg11;clear hT hG7 hg11;go_wp2_with fail
      refine ret_row rfl rfl hT11 rfl rfl size_item rfl ?_
      exact ⟨_, rfl, xa, xb, xc, xd, H6, rfl, hG11, hI6⟩
abbrev zeroCl : Array Value := #[.string ⟨#[]⟩, .string ⟨#[]⟩, .int .i64 0, .int .i64 0, .int .i64 0, .int .i64 0, .int .i64 0, .slice none 0 0, .slice none 0 0, .slice none 0 0, .slice none 0 0]
theorem size_claims : (Tryz.prog.info? 62).map (·.size) = some 11 := by kernel_rfl
theorem size_keyc : (Tryz.prog.info? 60).map (·.size) = some 7 := by kernel_rfl
theorem one11 (a b c d e f g h i j k : Value) (ha : a.oneCell' = true) (hb : b.oneCell' = true) (hc : c.oneCell' = true) (hd : d.oneCell' = true) (he : e.oneCell' = true) (hf : f.oneCell' = true) (hg : g.oneCell' = true) (hh : h.oneCell' = true) (hi : i.oneCell' = true) (hj : j.oneCell' = true) (hk : k.oneCell' = true) :
  (#[a, b, c, d, e, f, g, h, i, j, k] : Array Value).all (·.oneCell') = true := by simp [ha, hb, hc, hd, he, hf, hg, hh, hi, hj, hk]
structure CS (W0 : World) (H : Snap) (xc cc : Array Value) (w : World) (Hr : Snap) : Prop where
 grows : Grows W0 H w Hr
 box : Blk w W0.heap.size 75 xc
 res : Blk w (W0.heap.size + 1) 62 zeroCl
 var : Blk w (W0.heap.size + 2) 62 cc
 hR : Hr (W0.heap.size + 1) = none
 hV : Hr (W0.heap.size + 2) = none
structure NB (W0 : World) (Hr : Snap) (w : World) (g : Nat) (cells : Array Value) : Prop where
 blk : Blk w g 75 cells
 none : Hr g = none
 far : W0.heap.size + 3 ≤ g
section
variable {W0 w w' : World} {H Hr Hs : Snap} {xc cc cc' c c' : Array Value} {g g' : Nat}
theorem CS.grow (h : CS W0 H xc cc w Hr) (k : Grows w Hr w' Hs) : CS W0 H xc cc w' Hs :=
 ⟨h.grows.trans k, h.box.below k.below, h.res.below k.below, h.var.below k.below, k.none h.hR h.res.lt, k.none h.hV h.var.lt⟩
theorem CS.below (h : CS W0 H xc cc w Hr) (k : Below w.heap.size w w') : CS W0 H xc cc w' Hr := h.grow (Grows.of_below h.grows.holds k)
theorem CS.alloc (h : CS W0 H xc cc w Hr) (o : Obj) : CS W0 H xc cc (w.alloc o) Hr := h.below (below_box w o)
theorem CS.drew (h : CS W0 H xc cc w Hr) : CS W0 H xc cc w.drew Hr := h.below (Below.refl _ _).drew
theorem CS.set (h : CS W0 H xc cc w Hr) (hB : Blk w' (W0.heap.size + 2) 62 cc') (hg : w.grownBy w' (some (W0.heap.size + 2))) : CS W0 H xc cc' w' Hr :=
 ⟨h.grows.grownOwn h.hV (by omega) hg, h.box.gr hg (by omega), h.res.gr hg (by omega), hB, h.hR, h.hV⟩
theorem CS.put (h : CS W0 H xc cc w Hr) (n : NB W0 Hr w g c) (hg : w.grownBy w' (some g)) : CS W0 H xc cc w' Hr :=
 ⟨h.grows.grownOwn n.none (by have := n.far; omega) hg, h.box.grown hg (by intro e; injection e with e; have := n.far; omega), h.res.grown hg (by intro e; injection e with e; have := n.far; omega), h.var.grown hg (by intro e; injection e with e; have := n.far; omega), h.hR, h.hV⟩
theorem CS.newI (h : CS W0 H xc cc w Hr) : NB W0 Hr (w.alloc (.cells zeroC 75)) w.heap.size zeroC :=
 ⟨Blk.new _ _ _, h.grows.holds.none_of_ge (Nat.le_refl _), by have := h.var.lt; omega⟩
end
def ClaimsOut (w : World) (H : Snap) (x : Itm) (e : Ending) (w' : World) : Prop :=
 (claimsP x = none ∧ e = .returned (.tuple #[.agg zeroCl, .bool false]) ∧ Below w.heap.size w w') ∨
 (∃ c a H', claimsP x = some c ∧ e = .returned (.tuple #[.agg (clQ c a), .bool true]) ∧ Grows w H w' H' ∧ ClA H' c a)
theorem decodeP_valid {l : List UInt8} {y : Itm} (h : decodeP l = .ok y) : validP y = true := by
 unfold decodeP at h
 split at h
 ·cases h
 ·split at h
  ·cases h
  ·rename_i x k c hp
   split at h
   ·cases h
   ·injection h with h
    subst h;obtain ⟨h1, h2, h3, h4, h5, h6, h7⟩ := prefix_spec hp
    exact (validP_iff _).2 ⟨h5, h7, by rw [h4, List.length_take]; omega⟩
theorem decodeP_err1 {l : List UInt8} {q : Nat} (h : decodeP l = .error q) : q ≠ 0 := by
 unfold decodeP at h
 split at h
 ·injection h with h; omega
 ·split at h
  ·rename_i e hp
   injection h with h
   subst h
   exact parse_err _ _ _ _ hp
  ·split at h
   ·injection h with h; omega
   ·cases h
def claimsD (l : List UInt8) : Except Nat Cl := match decodeP l with
 | .error q => .error q
 | .ok x => match claimsP x with
  | none => .error 4
  | some c => .ok c
theorem claimsD_err {l : List UInt8} {q : Nat} (h : claimsD l = .error q) : q ≠ 0 := by
 unfold claimsD at h
 split at h
 ·rename_i q' hq
  injection h with h
  subst h
  exact decodeP_err1 hq
 ·split at h
  ·injection h with h; omega
  ·cases h
def DecCOut (w : World) (H : Snap) (l : List UInt8) (e : Ending) (w' : World) : Prop :=
 (∃ q : Nat, claimsD l = .error q ∧ e = .returned (.tuple #[.agg zeroCl, .int .i64 (q : Int)]) ∧ Below w.heap.size w w') ∨
 (∃ c a H', claimsD l = .ok c ∧ e = .returned (.tuple #[.agg (clQ c a), .int .i64 0]) ∧ Grows w H w' H' ∧ ClA H' c a)
def EncCOut (w : World) (c : Cl) (e : Ending) (w' : World) : Prop := ∃ r l cd, e = .returned (.tuple #[r, .int .i64 cd]) ∧ Fresh w l r w' ∧ l = (if validC c = true then encB (itmCl c) else []) ∧ cd = if validC c = true then 0 else 1
theorem ref21_Encode {H : Snap} (hTab : Tabs H) {c : Cl} {a : KAd} (hc : ClA H c a) (w : World) (hH : Holds w H) :
  Calls Tryz.prog 23 #[.agg (clQ c a)] w (EncCOut w c) := by
 have hB := Blk.new w 62 (clQ c a);have hG := (Grows.refl hH).alloc (.cells (clQ c a) 62);have HT := Hh hTab;have HC := Hh hc;have VC := Hh (ref21_Valid hTab hc _ hG.holds);have b0 := hB.cell 0 rfl;have b1 := hB.cell 1 rfl;have b2 := hB.cell 2 rfl;have b3 := hB.cell 3 rfl;have b4 := hB.cell 4 rfl;have b5 := hB.cell 5 rfl;have b6 := hB.cell 6 rfl;have b7 := hB.cell 7 rfl;have b8 := hB.cell 8 rfl;have b9 := hB.cell 9 rfl;have b10 := hB.cell 10 rfl;clear hTab hc hH;go_enter Tryz.func23, Tryz.ntmps23
 go_wp2_with fail
 refine VC.out.mono ?_
 rintro e w2 ⟨rfl, hb2⟩
 replace hB := hB.below hb2;replace hG := hG.below_ hb2;clear VC hb2 b0 b1 b2 b3 b4 b5 b6 b7 b8 b9 b10
 cases hv : validC c with
 | false =>
  clear hB;have HV := Hh hv;clear hv;go_wp2_with fail
  go_ret2
  exact ⟨_, [], 1, rfl, ⟨OwnB.nil _ _, hG.below⟩, by rw [if_neg (by rw [HV.out]; simp)], by rw [if_neg (by rw [HV.out]; simp)]⟩
 | true =>
  have HV := Hh hv;clear hv;have b0 := hB.cell 0 rfl;have b1 := hB.cell 1 rfl;have b2 := hB.cell 2 rfl;have b3 := hB.cell 3 rfl;have b4 := hB.cell 4 rfl;have b5 := hB.cell 5 rfl;have b6 := hB.cell 6 rfl;have b7 := hB.cell 7 rfl;have b8 := hB.cell 8 rfl;have b9 := hB.cell 9 rfl;have b10 := hB.cell 10 rfl;clear hB;go_wp2_with fail
  refine (ref21_item (HT.out.mono hG.le) (HC.out.mono hG.le) HV.out _ hG.holds).mono ?_
  rintro e w3 ⟨v3, rfl, xa, xb, xc, xd, H3, rfl, hG3, hI3⟩
  replace hG := hG.trans hG3;clear hG3 b0 b1 b2 b3 b4 b5 b6 b7 b8 b9 b10;obtain ⟨y, hy⟩ : ∃ y, y = itmCl c := ⟨_, rfl⟩
  rw [← hy] at hI3 ⊢;have HY := Hh hy;clear hy;have EN := Hh (ref_Encode (HT.out.mono hG.le) hI3.arg _ hG.holds);clear hI3;go_wp2_with fail
  refine EN.out.mono ?_
  rintro e w4 (⟨hno, _, _⟩ | ⟨_, r, rfl, hf⟩)
  ·rw [HY.out, validP_itmCl HV.out] at hno
   cases hno
  have hb := hG.below;go_wp2_with fail
  go_ret2
  exact ⟨r, encB y, 0, rfl, ⟨hf.own.more hb.size, hb.trans (hf.2.mono hb.size)⟩, by rw [if_pos HV.out, HY.out], by rw [if_pos HV.out]⟩
def credP (l : List UInt8) : Bool := match claimsD l with
 | .ok c => decide (c.key.crv = 6)
 | .error _ => false
def soundP (m : Mb) : Bool := decide (1 ≤ m.name.size) && decide (m.name.size ≤ 32) && Lib.validD m.name.data.toList && decide (1 ≤ m.roles) && decide (m.roles ≤ 7) && credP m.cred && decide (m.share.length = 32)
theorem cred_name {H : Snap} (hTab : Tabs H) (s : ByteArray) (hs : s.size ≤ 9223372036854775807) (w : World) (hH : Holds w H) :
  Calls Tryz.prog 67 #[.string s] w fun e w' => e = .returned (.bool (namedP s)) ∧ Below w.heap.size w w' := by
 obtain ⟨n, hn⟩ : ∃ n, s.size = n := ⟨_, rfl⟩
 have hns : ((s.size : Nat) : Int) = (n : Int) := by rw [hn]
 by_cases h : n ≤ 64
 ·have VS := Hh (utf8_ValidString hTab w hH s (by omega));have E : Hid (namedP s = Lib.validD s.data.toList) := by rw [Hid, namedP, hn, decide_eq_true h, Bool.true_and]
  obtain ⟨q, hq⟩ : ∃ q, Lib.validD s.data.toList = q := ⟨_, rfl⟩
  rw [hq] at E VS;have hi : (n : Int) ≤ 64 := by omega
  clear hq hn hTab hH hs h;go_enter Tryz.func67, Tryz.ntmps67
  go_wp2_with fail
  refine VS.out.mono ?_
  rintro e w1 ⟨rfl, hb1⟩
  go_wp2_with fail
  go_ret
  exact ⟨by rw [E.out]; rfl, hb1⟩
 ·have E : Hid (namedP s = false) := by rw [Hid, namedP, hn, decide_eq_false h, Bool.false_and]
  have hi : ¬ (n : Int) ≤ 64 := by omega
  clear hn hTab hH hs h;go_enter Tryz.func67, Tryz.ntmps67
  go_wp2_with fail
  go_ret
  exact ⟨by rw [E.out]; rfl, Below.refl _ _⟩
theorem cred_Valid {H : Snap} (hTab : Tabs H) {c : Cl} {a : KAd} (hc : ClA H c a) (w : World) (hH : Holds w H) :
  Calls Tryz.prog 50 #[.agg (clQ c a)] w fun e w' => e = .returned (.bool (validC c)) ∧ Below w.heap.size w w' := by
 obtain ⟨nx, hnx⟩ : ∃ n, n = c.key.x.length := ⟨_, rfl⟩
 obtain ⟨nd, hnd⟩ : ∃ n, n = c.key.d.length := ⟨_, rfl⟩
 have HN := Hh (And.intro hnx hnd);have HC := Hh hc;have N1 := Hh (fun w hH => cred_name hTab c.issuer hc.issuer w hH);have N2 := Hh (fun w hH => cred_name hTab c.subject hc.subject w hH);have V : Hid (∀ W, Calls Tryz.prog 68 #[.agg (keyC c.key.kty c.key.crv c.key.alg a.ia c.key.kid.length a.ic a.xa c.key.x.length a.xc a.da c.key.d.length a.dc a.ka c.key.k.length a.kc)] W fun e w' => e = .returned (.bool (validK c.key)) ∧ Below W.heap.size W w') := fun W => key_ValidN c.key.kty c.key.crv c.key.alg a.ia c.key.kid.length a.ic a.xa c.key.x.length a.xc a.da c.key.d.length a.dc a.ka c.key.k.length a.kc W hc.key.len.1 hc.key.len.2
 show Calls Tryz.prog 50 #[.agg (clC c.issuer c.subject c.since c.till c.key.kty c.key.crv c.key.alg a.ia c.key.kid.length a.ic a.xa c.key.x.length a.xc a.da c.key.d.length a.dc a.ka c.key.k.length a.kc)] w _
 rw [← hnx, ← hnd] at V ⊢;obtain ⟨ni, hni⟩ : ∃ n, c.key.kid.length = n := ⟨_, rfl⟩
 obtain ⟨nk, hnk⟩ : ∃ n, c.key.k.length = n := ⟨_, rfl⟩
 rw [hni, hnk] at V ⊢;have hB := Blk.new w 62 (clC c.issuer c.subject c.since c.till c.key.kty c.key.crv c.key.alg a.ia ni a.ic a.xa nx a.xc a.da nd a.dc a.ka nk a.kc);have hb := below_box w (.cells (clC c.issuer c.subject c.since c.till c.key.kty c.key.crv c.key.alg a.ia ni a.ic a.xa nx a.xc a.da nd a.dc a.ka nk a.kc) 62);have HH := Hh hH;have HNO := Hh (fun h => validC_no (c := c) h);have HYE := Hh (validC_iff c);have c0 := hB.cell 0 rfl;clear hnx hnd hni hnk hTab hc hH;go_enter Tryz.func50, Tryz.ntmps50
 go_wp2_with fail
 refine (N1.out _ (HH.out.below hb (Nat.le_refl _))).mono ?_
 rintro e w2 ⟨rfl, hb2⟩
 replace hB := hB.below hb2;replace hb := hb.trans (hb2.mono hb.size);clear hb2 c0 N1
 cases h1 : namedP c.issuer with
 | false =>
  have E : Hid (validC c = false) := HNO.out (fun h => by rw [h1] at h; exact absurd h.1 (by decide));clear hB h1;go_wp2_with fail
  go_ret
  exact ⟨by rw [E.out]; rfl, hb⟩
 | true =>
 have H1 := Hh h1;clear h1;have c1 := hB.cell 1 rfl;go_wp2_with fail
 refine (N2.out _ (HH.out.below hb (Nat.le_refl _))).mono ?_
 rintro e w3 ⟨rfl, hb3⟩
 replace hB := hB.below hb3;replace hb := hb.trans (hb3.mono hb.size);clear hb3 c1 N2
 cases h2 : namedP c.subject with
 | false =>
  have E : Hid (validC c = false) := HNO.out (fun h => by rw [h2] at h; exact absurd h.2.1 (by decide));clear hB h2;go_wp2_with fail
  go_ret
  exact ⟨by rw [E.out]; rfl, hb⟩
 | true =>
 have H2 := Hh h2;clear h2;have c1 := hB.cell 1 rfl;have c2 := hB.cell 2 rfl;have c3 := hB.cell 3 rfl
 by_cases hs : c.subject = ⟨#[]⟩
 ·have E : Hid (validC c = false) := HNO.out (fun h => h.2.2.1 hs);have s2 : c.subject.toList.isEmpty = true := (empty_iff _).2 hs;clear hs;clear hB;go_wp2_with fail
  go_ret
  exact ⟨by rw [E.out]; rfl, hb⟩
 have s2 : c.subject.toList.isEmpty = false := by cases h : c.subject.toList.isEmpty with | false => rfl | true => exact absurd ((empty_iff _).1 h) hs
 have HS := Hh hs;clear hs
 by_cases f0 : c.since < 0
 ·have E : Hid (validC c = false) := HNO.out (fun h => by have := h.2.2.2.1; omega);clear hB;go_wp2_with fail
  go_ret
  exact ⟨by rw [E.out]; rfl, hb⟩
 by_cases f1 : 1073741824 < c.since
 ·have E : Hid (validC c = false) := HNO.out (fun h => by have := h.2.2.2.2.1; omega);clear hB;go_wp2_with fail
  go_ret
  exact ⟨by rw [E.out]; rfl, hb⟩
 by_cases u0 : c.till < 0
 ·have E : Hid (validC c = false) := HNO.out (fun h => by have := h.2.2.2.2.2.1; omega);clear hB;go_wp2_with fail
  go_ret
  exact ⟨by rw [E.out]; rfl, hb⟩
 by_cases u1 : 1073741824 < c.till
 ·have E : Hid (validC c = false) := HNO.out (fun h => by have := h.2.2.2.2.2.2.1; omega);clear hB;go_wp2_with fail
  go_ret
  exact ⟨by rw [E.out]; rfl, hb⟩
 have HF := Hh (And.intro f0 (And.intro f1 (And.intro u0 u1)))
 by_cases hfu : 0 < c.till ∧ c.till < c.since
 ·have E : Hid (validC c = false) := HNO.out (fun h => h.2.2.2.2.2.2.2.1 hfu);obtain ⟨g0, g1⟩ := hfu;have t1 : (c.till = 0) = False := eq_false (by omega);have t2 : (c.till == 0) = false := by simpa using (show ¬ c.till = 0 by omega)
  have t3 : (c.till != 0) = true := by rw [bne_iff_ne]; omega
  clear hB;go_wp2_with fail
  go_ret
  exact ⟨by rw [E.out]; rfl, hb⟩
 have HFU := Hh hfu;have c4 := hB.cell 4 rfl;have c5 := hB.cell 5 rfl;have c6 := hB.cell 6 rfl;have c7 := hB.cell 7 rfl;have c8 := hB.cell 8 rfl;have c9 := hB.cell 9 rfl;have c10 := hB.cell 10 rfl;have fin : ∀ (w' : World), True := fun _ => trivial
 have go2 : Hid (validC c = (validK c.key && decide (c.key.kty = 1) && decide (0 < nx) && decide (nd = 0))) := by
  rw [Hid, HN.out.1, HN.out.2, Bool.eq_iff_iff, HYE.out]
  simp only [Bool.and_eq_true, decide_eq_true_eq, and_assoc]
  have e := HF.out
  exact ⟨fun h => ⟨h.2.2.2.2.2.2.2.2.1, h.2.2.2.2.2.2.2.2.2.1, h.2.2.2.2.2.2.2.2.2.2.1, h.2.2.2.2.2.2.2.2.2.2.2⟩, fun h => ⟨H1.out, H2.out, HS.out, by omega, by omega, by omega, by omega, HFU.out, h.1, h.2.1, h.2.2.1, h.2.2.2⟩⟩
 by_cases g0 : 0 < c.till
 ·have g1 : ¬ c.till < c.since := fun h => hfu ⟨g0, h⟩
  have t1 : (c.till = 0) = False := eq_false (by omega);have t2 : (c.till == 0) = false := by simpa using (show ¬ c.till = 0 by omega)
  have t3 : (c.till != 0) = true := by rw [bne_iff_ne]; omega
  clear hfu fin;go_wp2_with fail
  refine (V.out _).mono ?_
  rintro e w4 ⟨rfl, hb4⟩
  replace hB := hB.below hb4;replace hb := hb.trans (hb4.mono hb.size);clear hb4 V c1 c2 c3 c4 c5 c6 c7 c8 c9 c10
  cases hv : validK c.key with
  | false =>
   rw [hv] at go2;clear hB hv;go_wp2_with fail
   go_ret
   exact ⟨by rw [go2.out]; simp, hb⟩
  | true =>
  rw [hv] at go2;clear hv;have c4 := hB.cell 4 rfl;have c8 := hB.cell 8 rfl;have c9 := hB.cell 9 rfl
  by_cases hk : c.key.kty = 1
  ·have k1 : (c.key.kty = 1) = True := eq_true hk;have k2 : (c.key.kty == 1) = true := by simpa using hk
   by_cases hx : 0 < nx
   ·have x1 : (0 : Int) < (nx : Int) := by omega
    by_cases hd : nd = 0
    ·subst hd;clear hB hk;go_wp2_with fail
     go_ret
     exact ⟨by rw [go2.out]; simp [k1, hx], hb⟩
    ·have d1 : ((nd : Int) = 0) = False := eq_false (by omega);have d2 : (nd = 0) = False := eq_false hd;have d3 : ((nd : Int) == 0) = false := by simpa using hd
     clear hB hk;go_wp2_with fail
     go_ret
     exact ⟨by rw [go2.out]; simp [hd], hb⟩
   ·have x1 : ¬ (0 : Int) < (nx : Int) := by omega
    clear hB hk;go_wp2_with fail
    go_ret
    exact ⟨by rw [go2.out]; simp [hx], hb⟩
  ·have k1 : (c.key.kty = 1) = False := eq_false hk;have k2 : (c.key.kty == 1) = false := by simpa using hk
   clear hB;go_wp2_with fail
   go_ret
   exact ⟨by rw [go2.out]; simp [hk], hb⟩
 ·have t0 : c.till = 0 := by omega
  have t1 : (c.till = 0) = True := eq_true t0;have t2 : (c.till == 0) = true := by simpa using t0
  have t3 : (c.till != 0) = false := by simpa using t0
  clear hfu fin t0;go_wp2_with fail
  refine (V.out _).mono ?_
  rintro e w4 ⟨rfl, hb4⟩
  replace hB := hB.below hb4;replace hb := hb.trans (hb4.mono hb.size);clear hb4 V c1 c2 c3 c4 c5 c6 c7 c8 c9 c10
  cases hv : validK c.key with
  | false =>
   rw [hv] at go2;clear hB hv;go_wp2_with fail
   go_ret
   exact ⟨by rw [go2.out]; simp, hb⟩
  | true =>
  rw [hv] at go2;clear hv;have c4 := hB.cell 4 rfl;have c8 := hB.cell 8 rfl;have c9 := hB.cell 9 rfl
  by_cases hk : c.key.kty = 1
  ·have k1 : (c.key.kty = 1) = True := eq_true hk;have k2 : (c.key.kty == 1) = true := by simpa using hk
   by_cases hx : 0 < nx
   ·have x1 : (0 : Int) < (nx : Int) := by omega
    by_cases hd : nd = 0
    ·subst hd;clear hB hk;go_wp2_with fail
     go_ret
     exact ⟨by rw [go2.out]; simp [k1, hx], hb⟩
    ·have d1 : ((nd : Int) = 0) = False := eq_false (by omega);have d2 : (nd = 0) = False := eq_false hd;have d3 : ((nd : Int) == 0) = false := by simpa using hd
     clear hB hk;go_wp2_with fail
     go_ret
     exact ⟨by rw [go2.out]; simp [hd], hb⟩
   ·have x1 : ¬ (0 : Int) < (nx : Int) := by omega
    clear hB hk;go_wp2_with fail
    go_ret
    exact ⟨by rw [go2.out]; simp [hx], hb⟩
  ·have k1 : (c.key.kty = 1) = False := eq_false hk;have k2 : (c.key.kty == 1) = false := by simpa using hk
   clear hB;go_wp2_with fail
   go_ret
   exact ⟨by rw [go2.out]; simp [hk], hb⟩
theorem pk_append : ∀ {a : List Itm} (b : List Itm), a.length % 2 = 0 → pk (a ++ b) = pk a ++ pk b
 | [], b, _ => by simp [pk]
 | [_], b, h => by simp at h
 | x :: y :: a, b, h => by
  rw [List.cons_append, List.cons_append, pk, pk, pk_append b (by simp only [List.length_cons] at h; omega), List.cons_append]
def progC (c : Cl) : List Itm := [intP 2, txtI c.subject, intP 8, cnfI c.key] ++ issL c.issuer ++ tickL 4 c.till ++ tickL 5 c.since
theorem issL_even (s : ByteArray) : (issL s).length % 2 = 0 := by unfold issL; split <;> simp
theorem tickL_even (k n : Int) : (tickL k n).length % 2 = 0 := by unfold tickL; split <;> simp
theorem progC_len (c : Cl) : (progC c).length = (pairsC c).length := by
 unfold progC pairsC
 simp only [List.length_append, List.length_cons, List.length_nil]
 omega
theorem progC_perm (c : Cl) : (pk (pairsC c)).Perm (pk (progC c)) := by
 have e1 : pk (pairsC c) = pk (issL c.issuer) ++ (pk [intP 2, txtI c.subject] ++ (pk (tickL 4 c.till) ++ (pk (tickL 5 c.since) ++ pk [intP 8, cnfI c.key]))) := by
  unfold pairsC
  simp only [List.append_assoc]
  rw [pk_append _ (issL_even _), pk_append _ (by simp), pk_append _ (tickL_even _ _), pk_append _ (tickL_even _ _)]
 have e2 : pk (progC c) = pk [intP 2, txtI c.subject] ++ (pk [intP 8, cnfI c.key] ++ (pk (issL c.issuer) ++ (pk (tickL 4 c.till) ++ pk (tickL 5 c.since)))) := by
  unfold progC
  rw [show [intP 2, txtI c.subject, intP 8, cnfI c.key] = [intP 2, txtI c.subject] ++ [intP 8, cnfI c.key] from rfl]
  simp only [List.append_assoc]
  rw [pk_append _ (by simp), pk_append _ (by simp), pk_append _ (issL_even _), pk_append _ (tickL_even _ _)]
 rw [e1, e2]
 generalize pk (issL c.issuer) = a
 generalize pk [intP 2, txtI c.subject] = b
 generalize pk (tickL 4 c.till) = d
 generalize pk (tickL 5 c.since) = e
 generalize pk [intP 8, cnfI c.key] = f
 have h1 : (a ++ (b ++ (d ++ (e ++ f)))).Perm (b ++ (a ++ (d ++ (e ++ f)))) := by
  have h := List.Perm.append_right (d ++ (e ++ f)) (List.perm_append_comm (l₁ := a) (l₂ := b))
  simpa only [List.append_assoc] using h
 refine h1.trans (List.Perm.append_left _ ?_)
 have h2 : (a ++ (d ++ (e ++ f))) = (a ++ (d ++ e)) ++ f := by simp only [List.append_assoc]
 rw [h2]
 exact List.perm_append_comm
def sF (x : Itm) (n : Int) : Itm := (findP x (intP n)).getD zeroItm
def numF (x : Itm) (n : Int) : Int := ((min (sF x n).n 1073741825 : Nat) : Int)
def keyB (x : Itm) : Bool := validP x && validK (kfoldR nilKy x.items) && sameB (itemK (kfoldR nilKy x.items)) x
theorem keyB_iff (x : Itm) : keyB x = true ↔ validP x = true ∧ ∃ q, IsKeyI x q := by
 unfold keyB
 rw [Bool.and_eq_true, Bool.and_eq_true]
 refine ⟨fun h => ⟨h.1.1, _, h.1.2, (sameB_iff _ _).1 h.2⟩, fun ⟨h1, q, h2⟩ => ?_⟩
 have e := kfoldR_key h2;rw [e]
 exact ⟨⟨h1, h2.1⟩, (sameB_iff _ _).2 h2.2⟩
def readC (x v : Itm) : Cl := ⟨strOf (sF x 1).bytes, strOf (sF x 2).bytes, numF x 5, numF x 4, keyOf v⟩
def progCl (x : Itm) : Option Cl := match findP (sF x 8) (intP 1) with
 | none => none
 | some v => if keyB v = true then (if (validC (readC x v) && sameB (itmCl (readC x v)) x) = true then some (readC x v) else none) else none
theorem ne_labelsC : encB (intP 1) ≠ encB (intP 2) ∧ encB (intP 1) ≠ encB (intP 4) ∧ encB (intP 1) ≠ encB (intP 5) ∧ encB (intP 1) ≠ encB (intP 8) ∧ encB (intP 2) ≠ encB (intP 4) ∧ encB (intP 2) ≠ encB (intP 5) ∧ encB (intP 2) ≠ encB (intP 8) ∧
  encB (intP 4) ≠ encB (intP 5) ∧ encB (intP 4) ≠ encB (intP 8) ∧ encB (intP 5) ≠ encB (intP 8) := by
 rw [encB_intP, encB_intP, encB_intP, encB_intP, encB_intP];decide +kernel
theorem validP_intP (n : Int) : validP (intP n) = true := (validP_iff _).mpr ⟨good_intP n 0, by rw [(leaf_intP n).1]; omega, by have := (leaf_intP n).2; omega⟩
theorem find_itmCl {c : Cl} (h : validC c = true) (n : Int) : findP (itmCl c) (intP n) = findL (encB (intP n)) (pairsC c) := by
 rw [findP, if_pos ⟨rfl, validP_itmCl h, validP_intP n⟩];rfl
theorem finds {c : Cl} (h : validC c = true) : sF (itmCl c) 1 = (if c.issuer = ⟨#[]⟩ then zeroItm else txtI c.issuer) ∧ sF (itmCl c) 2 = txtI c.subject ∧ sF (itmCl c) 4 = (if 0 < c.till then intP c.till else zeroItm) ∧
  sF (itmCl c) 5 = (if 0 < c.since then intP c.since else zeroItm) ∧ sF (itmCl c) 8 = cnfI c.key := by
 obtain ⟨h12, h14, h15, h18, h24, h25, h28, h45, h48, h58⟩ := ne_labelsC
 unfold sF
 rw [find_itmCl h, find_itmCl h, find_itmCl h, find_itmCl h, find_itmCl h]
 unfold pairsC issL tickL
 repeat' split
 all_goals simp [findL, h12, h14, h15, h18, h24, h25, h28, h45, h48, h58, h12.symm, h14.symm, h15.symm, h18.symm, h24.symm, h25.symm, h28.symm, h45.symm, h48.symm, h58.symm]
theorem num_back {n : Int} (h0 : 0 ≤ n) (h : n ≤ 1073741824) : ((min (if 0 < n then intP n else zeroItm).n 1073741825 : Nat) : Int) = n := by
 split
 ·rw [intP, if_neg (by omega)];show ((min n.toNat 1073741825 : Nat) : Int) = n
  omega
 ·show ((min 0 1073741825 : Nat) : Int) = n
  omega
theorem progCl_some {x : Itm} {c : Cl} (h : progCl x = some c) : validC c = true ∧ itmCl c = x := by
 unfold progCl at h
 split at h
 ·cases h
 ·split at h
  ·split at h
   ·rename_i hc
    injection h with h
    subst h;rw [Bool.and_eq_true] at hc
    exact ⟨hc.1, (sameB_iff _ _).1 hc.2⟩
   ·cases h
  ·cases h
theorem progCl_eq (x : Itm) : progCl x = claimsP x := by
 have hb : ∀ c, validC c = true → progCl (itmCl c) = some c := by
  intro c hc
  obtain ⟨f1, f2, f4, f5, f8⟩ := finds hc;have hv := (validC_iff c).1 hc;have hvk := hv.2.2.2.2.2.2.2.2.1;have hcn : validP (cnfI c.key) = true := (buildC hc).2.2.1 _ (by unfold pairsC; simp)
  have e1 : findP (sF (itmCl c) 8) (intP 1) = some (itemK c.key) := by
   rw [f8, findP, if_pos ⟨rfl, hcn, validP_intP 1⟩];show findL (encB (intP 1)) [intP 1, itemK c.key] = _
   rw [findL, if_pos rfl]
  have ek : keyOf (itemK c.key) = c.key := keyOf_is (validP_itemK hvk) ⟨hvk, rfl⟩
  have er : readC (itmCl c) (itemK c.key) = c := by
   unfold readC numF
   rw [f1, f2, f4, f5, ek, num_back hv.2.2.2.1 hv.2.2.2.2.1, num_back hv.2.2.2.2.2.1 hv.2.2.2.2.2.2.1]
   have ei : strOf (if c.issuer = ⟨#[]⟩ then zeroItm else txtI c.issuer).bytes = c.issuer := by
    split
    ·rename_i h
     rw [h];rfl
    ·exact strOf_toList _
   rw [ei, show strOf (txtI c.subject).bytes = c.subject from strOf_toList _]
  unfold progCl
  rw [e1]
  simp only
  rw [if_pos ((keyB_iff _).2 ⟨validP_itemK hvk, c.key, hvk, rfl⟩), er, if_pos (by rw [hc, (sameB_iff (itmCl c) (itmCl c)).2 rfl]; rfl)]
 cases h : claimsP x with
 | some c =>
  obtain ⟨h1, h2⟩ := claimsP_some h;rw [← h2]
  exact hb c h1
 | none =>
  cases h' : progCl x with
  | none => rfl
  | some c =>
   have := (claimsP_iff x c).2 (progCl_some h');rw [h] at this
   cases this
theorem progC_mem {c : Cl} {x : Itm} (h : x ∈ progC c) : x ∈ pairsC c := by
 unfold progC at h
 unfold pairsC
 simp only [List.mem_append, List.mem_cons, List.not_mem_nil, or_false] at h ⊢
 rcases h with ((h | h) | h) | h
 ·rcases h with h | h | h | h <;> simp [h]
 all_goals simp [h]
theorem progC_valid {c : Cl} (h : validC c = true) : ∀ x ∈ progC c, validP x = true := fun x hx => (buildC h).2.2.1 x (progC_mem hx)
theorem cnf_valid {c : Cl} (h : validC c = true) : validP (cnfI c.key) = true ∧ validP (itemK c.key) = true := by
 have h1 : validP (cnfI c.key) = true := (buildC h).2.2.1 _ (by unfold pairsC; simp)
 exact ⟨h1, validP_elem h1 (by simp [cnfI, Itm.items])⟩
section
variable {W0 w w' : World} {H Hr : Snap} {cc : Array Value} {L : List Itm}
theorem IS.other (h : IS W0 H cc (.slice none 0 0) [] w Hr) {g : Nat} (hg : w.grownBy w' (some g)) (h0 : Hr g = none) (h2 : W0.heap.size + 2 ≤ g) : IS W0 H cc (.slice none 0 0) [] w' Hr :=
 ⟨h.grows.grownOwn h0 (by omega) hg, h.hB, h.hT, h.box.grown hg (fun e => by injection e with e; omega), h.res.grown hg (fun e => by injection e with e; omega), OwnI.nil _ _ _, fun g hg => by simp [Value.ownBlock] at hg⟩
theorem IS.lit (h : IS W0 H cc (.slice none 0 0) [] w Hr) {cs : List Value} (hl : ItemsC Hr cs L) (hm : L.length ≤ 4096) : IS W0 H cc (.slice (some ⟨w.heap.size, 0, none⟩) L.length L.length) L (w.alloc (.cells cs.toArray 75)) Hr :=
 ⟨h.grows.alloc _, h.hB, h.hT, h.box.alloc _, h.res.alloc _, OwnI.lit hl _ h.base hm, fun g hg => by simp [Value.ownBlock] at hg; subst hg; exact h.grows.hidden (Nat.le_refl _)⟩
end
theorem cred_item {H : Snap} (hTab : Tabs H) {c : Cl} {a : KAd} (hc : ClA H c a) (hval : validC c = true) (w : World) (hH : Holds w H) :
  Calls Tryz.prog 52 #[.agg (clQ c a)] w (ItemCOut w H c) := by
 have hP := IS.nil (((Grows.refl hH).alloc (.cells (clQ c a) 62)).alloc (.cells zeroC 75)) (hH.none_of_ge (Nat.le_refl _)) (hH.none_of_ge (by omega)) ((Blk.new w 62 (clQ c a)).alloc (.cells zeroC 75)) (by have h := Blk.new (w.alloc (.cells (clQ c a) 62)) 75 zeroC; rw [size_alloc] at h; exact h);have HC := Hh hc;have HT := Hh hTab;have HV := Hh hval;have HVI := Hh ((validC_iff c).1 hval);have HCV := Hh (cnf_valid hval);have HMAX : Hid ((2 : Int) ≤ 9) := by rw [Hid]; omega
 clear hc hH hTab hval;go_enter Tryz.func52, Tryz.ntmps52
 obtain ⟨W1, hW1⟩ : ∃ W1, (w.alloc (.cells (clQ c a) 62)).alloc (.cells zeroC 75) = W1 := ⟨_, rfl⟩
 go_upto_region 1 with fail
 rw [hW1] at hP;clear hW1;have c4 := hP.box.cell 4 rfl;have c5 := hP.box.cell 5 rfl;have c6 := hP.box.cell 6 rfl;have c7 := hP.box.cell 7 rfl;have c8 := hP.box.cell 8 rfl;have c9 := hP.box.cell 9 rfl;have c10 := hP.box.cell 10 rfl;go_wp2_with fail
 refine (key_ToItem (HT.out.mono hP.grows.le) (HC.out.key.mono hP.grows.le) _ hP.grows.holds).mono ?_
 rintro e w5 ⟨v5, rfl, hg5⟩
 have EK : Hid (codeK c.key = 0 ∧ itmK c.key = itemK c.key) := ⟨by rw [codeK, if_pos HVI.out.2.2.2.2.2.2.2.2.1], by rw [itmK, if_pos HVI.out.2.2.2.2.2.2.2.2.1]⟩
 rw [EK.out.2] at hg5;rw [EK.out.1];obtain ⟨ya, yb, yc, yd, H5, rfl, hG5, hI5⟩ := hg5;replace hP := hP.grow hG5;clear hG5 c4 c5 c6 c7 c8 c9 c10;obtain ⟨y, hy⟩ : ∃ y, y = itemK c.key := ⟨_, rfl⟩
 have HYV : Hid (validP y = true ∧ validP (.mk 5 0 [] [intP 1, y]) = true) := by rw [hy]; exact ⟨HCV.out.2, HCV.out.1⟩
 rw [← hy] at hI5 ⊢;have HY := Hh hy;clear hy;have hQ := Blk.new w5 75 #[.int .i64 y.kind, .int .u64 y.n, .slice ya y.bytes.length yb, .slice yc y.items.length yd];replace hP := hP.alloc (itemO y ya yb yc yd);obtain ⟨Q, hQe⟩ : ∃ Q, w5.heap.size = Q := ⟨_, rfl⟩
 obtain ⟨w6, hw6⟩ : ∃ w6, w5.alloc (itemO y ya yb yc yd) = w6 := ⟨_, rfl⟩
 rw [hQe, hw6] at hQ;rw [hw6] at hP;go_upto_region 2 with fail
 clear hQe hw6;go_cut [5] (fun s5 wx => ∃ (N : Nat) (za : Option Addr) (zb : Nat) (zc : Option Addr) (zd : Nat) (H9 : Snap), s5 = .pointer (some ⟨N, 0, none⟩) ∧ IS w H (clQ c a) (.slice none 0 0) [] wx H9 ∧ Blk wx N 75 (itemC (cnfI c.key) za zb zc zd).toArray ∧ IsItem H9 za zb zc zd (cnfI c.key))
 case first =>
  replace hP := hP.drew;replace hQ := hQ.below (Below.refl _ _).drew
  refine wp_region_ways 10 (fun wx => wx.cell? ⟨Q, 0, none⟩ = some (.int .i64 y.kind) ∧ wx.cell? ⟨Q, 1, none⟩ = some (.int .u64 y.n) ∧ wx.cell? ⟨Q, 2, none⟩ = some (.slice ya y.bytes.length yb) ∧ wx.cell? ⟨Q, 3, none⟩ = some (.slice yc y.items.length yd)) (by kernel_rfl) (⟨hQ.cell 0 rfl, hQ.cell 1 rfl, hQ.cell 2 rfl, hQ.cell 3 rfl⟩) (fun hHeld => ?_)
  repeat' first
   | (
    revert k0
    intro hK
    go_simp
    refine (cbor_Int 1 (by omega) (by omega) _ hP.grows.holds).mono ?_
    rintro e w7 ⟨v1, rfl, xa1, xb1, xc1, xd1, H1, rfl, hG1, hI1⟩
    try replace hH9 := hG1.none hH9 hD.lt
    try replace hD := hD.below hG1.below
    replace hP := hP.grow hG1;replace hQ := hQ.below hG1.below;have hI5 := hI5.mono hG1.le;clear hG1
    refine Ko hK ?_ fun hHeld => ?_
    ·exact ⟨hQ.cell 0 rfl, hQ.cell 1 rfl, hQ.cell 2 rfl, hQ.cell 3 rfl⟩
    clear hK K)
   | (
    revert k2
    intro hK
    go_simp
    obtain ⟨H4, hG4, hl4, hr4⟩ := lit_items (l := [intP 1, y]) (Grows.refl hP.grows.holds) ((ItemsC.one hI1).app (ItemsC.one hI5)) (by simp)
    try simp only [drew_heap, size_alloc] at hr4
    try replace hH9 := hG4.none hH9 hD.lt
    try replace hD := hD.below hG4.below
    replace hP := hP.grow hG4;replace hQ := hQ.below hG4.below;clear hl4 hG4
    refine Ko hK ?_ fun hHeld => ?_
    ·exact ⟨hQ.cell 0 rfl, hQ.cell 1 rfl, hQ.cell 2 rfl, hQ.cell 3 rfl⟩
    clear hK K)
   | (
    revert k3
    intro hK
    go_simp
    have hr4 : IsRowI _ _ 2 [intP 1, y] := hr4
    refine (cbor_BuildN (HT.out.mono hP.grows.le) hr4 (by simp) (Nat.zero_le _) (by simp) (qs := [intP 1, y]) rfl (List.Perm.refl _) rfl (fun x hx => by simp only [List.mem_cons, List.not_mem_nil, or_false] at hx; rcases hx with rfl | rfl; exact validP_int 1; exact HYV.out.1) HYV.out.2 _ hP.grows.holds).mono ?_
    rintro e w8 ⟨v8, rfl, za, zb, zc, zd, H8, rfl, hG8, hI8⟩
    try replace hH9 := hG8.none hH9 hD.lt
    try replace hD := hD.below hG8.below
    replace hP := hP.grow hG8;replace hQ := hQ.below hG8.below;clear hG8 hr4
    refine Ko hK ?_ fun hHeld => ?_
    ·exact ⟨hQ.cell 0 rfl, hQ.cell 1 rfl, hQ.cell 2 rfl, hQ.cell 3 rfl⟩
    clear hK K)
   | (
    revert k7
    intro hK
    go_simp
    have hD := hP.grows.newBlk 75 zeroC;have hH9 := hP.grows.hidden (Nat.le_refl _);have hbase := hP.base;have hqN := hQ.lt;replace hP := hP.alloc (.cells zeroC 75);replace hQ := hQ.alloc (.cells zeroC 75)
    try (have hr4 := hr4)
    try simp only [drew_heap, size_alloc] at hD
    try simp only [drew_heap, size_alloc] at hH9
    try simp only [drew_heap, size_alloc] at hbase
    try simp only [drew_heap, size_alloc] at hqN
    refine Ko hK ?_ fun hHeld => ?_
    ·exact ⟨hQ.cell 0 rfl, hQ.cell 1 rfl, hQ.cell 2 rfl, hQ.cell 3 rfl⟩
    clear hK K)
   | (
    revert k8
    intro hK
    rw [if_pos (by rfl)]
    refine wp_store_item _ _ _ rfl _ _ rfl rfl _ _ hD size_item rfl (one4 _ _ _ _ rfl rfl rfl rfl) fun w10 hD10 hg10 => ?_
    have hP := hP.other hg10 hH9 hbase;have hQ := hQ.grown hg10 (fun e => by injection e with e; omega)
    refine Ko hK ?_ fun hHeld => ?_
    ·exact ⟨hQ.cell 0 rfl, hQ.cell 1 rfl, hQ.cell 2 rfl, hQ.cell 3 rfl⟩
    clear hK K)
   | simp only [Act.put, zz1, zz2, zz3, zz4, zz5, zz6]
   | refine TkS 1 rfl hHeld ?_ (hs:=by decide +kernel)
   | refine TkS 4 rfl hHeld ?_ (hs:=by decide +kernel)
   | refine TkS 5 rfl hHeld ?_ (hs:=by decide +kernel)
   | refine TkS 6 rfl hHeld ?_ (hs:=by decide +kernel)
   | refine TkS 9 rfl hHeld ?_ (hs:=by decide +kernel)
   | refine Ways.two (i := 0) (j := 7) rfl rfl (by decide +kernel) (fun K k0 => ?_) (fun K k7 => ?_)
   | refine Ways.two (i := 2) (j := 7) rfl rfl (by decide +kernel) (fun K k2 => ?_) (fun K k7 => ?_)
   | refine Ways.two (i := 3) (j := 7) rfl rfl (by decide +kernel) (fun K k3 => ?_) (fun K k7 => ?_)
   | refine To 7 rfl (fun K k7 => ?_) (by decide +kernel)
   | refine To 8 rfl (fun K k8 => ?_) (by decide +kernel)
   | refine To 3 rfl (fun K k3 => ?_) (by decide +kernel)
   | refine To 2 rfl (fun K k2 => ?_) (by decide +kernel)
   | refine To 0 rfl (fun K k0 => ?_) (by decide +kernel)
   | (
    refine Wd ?_ (by decide +kernel)
    clear hHeld;go_wp2_with fail
    go_meet
    exact ⟨_, za, zb, zc, zd, H8, rfl, hP, by rw [cnfI, ← HY.out]; exact hD10, by rw [cnfI, ← HY.out]; exact hI8⟩)
 case rest =>
 clear hP hQ hI5;obtain ⟨N, za, zb, zc, zd, H9, rfl, hP, hN, hI9⟩ := hcut;obtain ⟨z, hz⟩ : ∃ z, cnfI c.key = z := ⟨_, rfl⟩
 rw [hz] at hN hI9;have HZ := Hh hz;clear hz HY HYV;go_upto_region 3 with fail
 go_cut [7] (fun s7 wx => ISt w H (clQ c a) s7 [intP 2, txtI c.subject, intP 8, cnfI c.key] wx)
 case first =>
  have c1 : World.cell? _ ⟨w.heap.size, 1, none⟩ = some (.string c.subject) := hP.box.cell 1 rfl;replace hP := hP.drew;replace hN := hN.below (Below.refl _ _).drew
  refine wp_region_ways 8 (fun wx => wx.cell? ⟨w.heap.size, 1, none⟩ = some (.string c.subject) ∧ wx.cell? ⟨N, 0, none⟩ = some (.int .i64 z.kind) ∧ wx.cell? ⟨N, 1, none⟩ = some (.int .u64 z.n) ∧ wx.cell? ⟨N, 2, none⟩ = some (.slice za z.bytes.length zb) ∧ wx.cell? ⟨N, 3, none⟩ = some (.slice zc z.items.length zd)) (by kernel_rfl) (⟨c1, hN.cell 0 rfl, hN.cell 1 rfl, hN.cell 2 rfl, hN.cell 3 rfl⟩) (fun hHeld => ?_)
  refine TkS 1 rfl hHeld ?_
  refine TkS 2 rfl hHeld ?_
  refine TkS 5 rfl hHeld ?_
  refine To 0 rfl fun K hK => ?_
  go_simp
  refine (cbor_Int 2 (by omega) (by omega) _ hP.grows.holds).mono ?_
  rintro e w7 ⟨v1, rfl, xa1, xb1, xc1, xd1, H1, rfl, hG1, hI1⟩
  have hP := hP.grow hG1;have hN := hN.below hG1.below;have hI9 := hI9.mono hG1.le;clear hG1
  refine Ko hK ?_ fun hHeld => ?_
  ·exact ⟨hP.box.cell 1 rfl, hN.cell 0 rfl, hN.cell 1 rfl, hN.cell 2 rfl, hN.cell 3 rfl⟩
  clear hK K
  refine To 3 rfl fun K hK => ?_
  go_simp
  refine (cbor_Text c.subject (by have := named_size HVI.out.2.1; omega) _ hP.grows.holds).mono ?_
  rintro e w8 ⟨v2, rfl, xa2, xb2, xc2, xd2, H2, rfl, hG2, hI2⟩
  have hP := hP.grow hG2;have hN := hN.below hG2.below;have hI9 := hI9.mono hG2.le;have hI1 := hI1.mono hG2.le;clear hG2
  refine Ko hK ?_ fun hHeld => ?_
  ·exact ⟨hP.box.cell 1 rfl, hN.cell 0 rfl, hN.cell 1 rfl, hN.cell 2 rfl, hN.cell 3 rfl⟩
  clear hK K
  refine To 4 rfl fun K hK => ?_
  go_simp
  refine (cbor_Int 8 (by omega) (by omega) _ hP.grows.holds).mono ?_
  rintro e w9 ⟨v3, rfl, xa3, xb3, xc3, xd3, H3, rfl, hG3, hI3⟩
  have hP := hP.grow hG3;have hN := hN.below hG3.below;have hI9 := hI9.mono hG3.le;have hI1 := hI1.mono hG3.le;have hI2 := hI2.mono hG3.le;clear hG3
  refine Ko hK ?_ fun hHeld => ?_
  ·exact ⟨hP.box.cell 1 rfl, hN.cell 0 rfl, hN.cell 1 rfl, hN.cell 2 rfl, hN.cell 3 rfl⟩
  clear hK K
  refine To 6 rfl fun K hK => ?_
  go_simp
  have hP := hP.lit (L := [intP 2, .mk 3 0 c.subject.data.toList [], intP 8, z]) ((ItemsC.one hI1).app ((ItemsC.one hI2).app ((ItemsC.one hI3).app (ItemsC.one hI9)))) (by simp);have hN := hN.alloc (.cells (itemC (intP 2) xa1 xb1 xc1 xd1 ++ (itemC (.mk 3 0 c.subject.data.toList []) xa2 xb2 xc2 xd2 ++ (itemC (intP 8) xa3 xb3 xc3 xd3 ++ itemC z za zb zc zd))).toArray 75)
  refine Ko hK ?_ fun hHeld => ?_
  ·exact ⟨hP.box.cell 1 rfl, hN.cell 0 rfl, hN.cell 1 rfl, hN.cell 2 rfl, hN.cell 3 rfl⟩
  clear hK K
  refine TkS 7 rfl hHeld ?_
  refine Wd ?_
  clear hHeld c1;go_wp2_with fail
  go_meet
  exact (by rw [HZ.out]; exact ⟨_, _, _, _, rfl, rfl, hP⟩)
 case rest =>
  clear hP hN hI9;have hS := hcut;clear hcut;have HLq : Hid (([intP 2, txtI c.subject, intP 8, cnfI c.key] : List Itm).length ≤ 1000) := by rw [Hid]; simp
  have c0 : World.cell? _ ⟨w.heap.size, 0, none⟩ = some (.string c.issuer) := hS.box.cell 0 rfl;go_upto_if 32 with fail
  go_cut [7] (fun s7 wx => ISt w H (clQ c a) s7 ([intP 2, txtI c.subject, intP 8, cnfI c.key] ++ issL c.issuer) wx)
  case first =>
   by_cases hs : c.issuer = ⟨#[]⟩
   case pos =>
    have s2 : c.issuer.toList.isEmpty = true := (empty_iff _).2 hs;have E : Hid ([intP 2, txtI c.subject, intP 8, cnfI c.key] ++ issL c.issuer = [intP 2, txtI c.subject, intP 8, cnfI c.key]) := by rw [Hid, show issL c.issuer = [] from if_pos hs, List.append_nil]
    have HS := Hh hS;clear hS hs
    simp only [s2, Bool.not_true]
    go_wp2_with fail
    go_meet
    rw [E.out]
    exact HS.out
   have s2 : c.issuer.toList.isEmpty = false := by cases h : c.issuer.toList.isEmpty with | false => rfl | true => exact absurd ((empty_iff _).1 h) hs
   have E : Hid ([intP 2, txtI c.subject, intP 8, cnfI c.key] ++ issL c.issuer = [intP 2, txtI c.subject, intP 8, cnfI c.key] ++ [intP 1, txtI c.issuer]) := by rw [Hid, show issL c.issuer = [intP 1, txtI c.issuer] from if_neg hs]
   simp only [s2, Bool.not_false]
   obtain ⟨LL, hLL⟩ : ∃ LL, LL = [intP 2, txtI c.subject, intP 8, cnfI c.key] := ⟨_, rfl⟩
   rw [← hLL] at hS HLq;have HLE := Hh hLL;clear hLL;obtain ⟨Hr, VA, m, vc, rfl, hm, hP⟩ := hS;have HL := Hh (And.intro hm HLq.out);clear hm;clear hs;clear c0;go_upto_region 5 with fail
   have c0 : World.cell? _ ⟨w.heap.size, 0, none⟩ = some (.string c.issuer) := hP.box.cell 0 rfl;replace hP := hP.drew
   refine wp_region_waysZ 6 (fun wx => wx.cell? ⟨w.heap.size, 0, none⟩ = some (.string c.issuer)) (by kernel_rfl) (c0) (fun hHeld => ?_)
   refine Zk 0 rfl hHeld ?_
   refine Zk 2 rfl hHeld ?_
   refine Zk 3 rfl hHeld ?_
   refine Zo 1 rfl fun K hK => ?_
   go_simp
   refine (cbor_Int (1) (by omega) (by omega) _ hP.grows.holds).mono ?_
   rintro e w3 ⟨v1, rfl, xa1, xb1, xc1, xd1, H1, rfl, hG1, hI1⟩
   have hP := hP.grow hG1
   refine Ko hK ?_ fun hHeld => ?_
   ·exact hP.box.cell 0 rfl
   clear hK K
   refine Zo 4 rfl fun K hK => ?_
   go_simp
   refine (cbor_Text c.issuer (by have := named_size HVI.out.1; omega) _ hP.grows.holds).mono ?_
   rintro e w4 ⟨v2, rfl, xa2, xb2, xc2, xd2, H2, rfl, hG2, hI2⟩
   have hP := hP.grow hG2;have hI1 := hI1.mono hG2.le
   refine Ko hK ?_ fun hHeld => ?_
   ·exact hP.box.cell 0 rfl
   clear hK K
   refine Zo 5 rfl fun K hK => ?_
   go_simp
   have hZ := hP.litZ (itemC (intP (1)) xa1 xb1 xc1 xd1 ++ itemC (txtI c.issuer) xa2 xb2 xc2 xd2).toArray 75;have hP := hP.alloc (.cells (itemC (intP (1)) xa1 xb1 xc1 xd1 ++ itemC (txtI c.issuer) xa2 xb2 xc2 xd2).toArray 75)
   refine Ko hK ?_ fun hHeld => ?_
   ·exact hP.box.cell 0 rfl
   clear hK K
   refine Zo 6 rfl fun K hK => ?_
   rw [if_pos (by rfl)]
   refine wp_app_items _ _ rfl _ _ _ _ rfl hP.own _ _ _ _ [_, _] rfl rfl ((ItemsC.one hI1).app (ItemsC.one hI2)) hZ (by have := HL.out; simp; omega) hP.base fun v7 w7 hown7 hg7 hat7 => ?_
   have hP := hP.app hown7 hg7 hat7;obtain ⟨A7, c7, rfl, _⟩ := hown7.form;obtain ⟨m7, hm7⟩ : ∃ m7, (LL ++ [intP (1), (.mk 3 0 c.issuer.data.toList [])]).length = m7 := ⟨_, rfl⟩
   rw [hm7] at hP ⊢;have HM7 := Hh hm7;clear hown7 hg7 hat7 hZ hm7
   refine Kz hK ?_
   clear hK K
   refine ZkT 7 rfl (fun h => absurd h (by decide)) ?_
   refine WaysZ.done (by kernel_rfl) ?_
   clear hHeld;go_wp2_with fail
   go_meet
   exact (by rw [E.out, ← HLE.out]; exact ⟨_, _, _, _, rfl, HM7.out.symm, hP⟩)
  case rest =>
   clear hS HLq c0;have hS := hcut;clear hcut;have HLq : Hid (([intP 2, txtI c.subject, intP 8, cnfI c.key] ++ issL c.issuer).length ≤ 1000) := by rw [Hid, issL]; split <;> simp
   have c3 : World.cell? _ ⟨w.heap.size, 3, none⟩ = some (.int .i64 c.till) := hS.box.cell 3 rfl;go_upto_if 42 with fail
   go_cut [7] (fun s7 wx => ISt w H (clQ c a) s7 ([intP 2, txtI c.subject, intP 8, cnfI c.key] ++ issL c.issuer ++ tickL 4 c.till) wx)
   case first =>
    have hge : 0 ≤ c.till := by have := HVI.out; omega
    by_cases h0 : c.till = 0
    case pos =>
     have E : Hid ([intP 2, txtI c.subject, intP 8, cnfI c.key] ++ issL c.issuer ++ tickL 4 c.till = [intP 2, txtI c.subject, intP 8, cnfI c.key] ++ issL c.issuer) := by rw [Hid, show tickL 4 c.till = [] from if_neg (by omega), List.append_nil]
     have hi1 : (c.till != 0) = false := by simpa using h0
     have hi2 := eq_true h0;have HS := Hh hS;clear hS h0 hge;go_wp2_with fail
     go_meet
     rw [E.out]
     exact HS.out
    have hi1 : (c.till != 0) = true := by rw [bne_iff_ne]; exact h0
    have hi2 := eq_false h0;have E : Hid ([intP 2, txtI c.subject, intP 8, cnfI c.key] ++ issL c.issuer ++ tickL 4 c.till = [intP 2, txtI c.subject, intP 8, cnfI c.key] ++ issL c.issuer ++ [intP 4, intP c.till]) := by rw [Hid, show tickL 4 c.till = [intP 4, intP c.till] from if_pos (by omega)]
    obtain ⟨LL, hLL⟩ : ∃ LL, LL = [intP 2, txtI c.subject, intP 8, cnfI c.key] ++ issL c.issuer := ⟨_, rfl⟩
    rw [← hLL] at hS HLq;have HLE := Hh hLL;clear hLL;obtain ⟨Hr, VA, m, vc, rfl, hm, hP⟩ := hS;have HL := Hh (And.intro hm HLq.out);clear hm;clear c3 h0 hge;go_upto_region 7 with fail
    clear hi1 hi2;have c3 : World.cell? _ ⟨w.heap.size, 3, none⟩ = some (.int .i64 c.till) := hP.box.cell 3 rfl;replace hP := hP.drew
    refine wp_region_waysZ 6 (fun wx => wx.cell? ⟨w.heap.size, 3, none⟩ = some (.int .i64 c.till)) (by kernel_rfl) (c3) (fun hHeld => ?_)
    refine Zk 0 rfl hHeld ?_
    refine Zk 2 rfl hHeld ?_
    refine Zk 3 rfl hHeld ?_
    refine Zo 1 rfl fun K hK => ?_
    go_simp
    refine (cbor_Int (4) (by omega) (by omega) _ hP.grows.holds).mono ?_
    rintro e w3 ⟨v1, rfl, xa1, xb1, xc1, xd1, H1, rfl, hG1, hI1⟩
    have hP := hP.grow hG1
    refine Ko hK ?_ fun hHeld => ?_
    ·exact hP.box.cell 3 rfl
    clear hK K
    refine Zo 4 rfl fun K hK => ?_
    go_simp
    refine (cbor_Int c.till HC.out.till.1 HC.out.till.2 _ hP.grows.holds).mono ?_
    rintro e w4 ⟨v2, rfl, xa2, xb2, xc2, xd2, H2, rfl, hG2, hI2⟩
    have hP := hP.grow hG2;have hI1 := hI1.mono hG2.le
    refine Ko hK ?_ fun hHeld => ?_
    ·exact hP.box.cell 3 rfl
    clear hK K
    refine Zo 5 rfl fun K hK => ?_
    go_simp
    have hZ := hP.litZ (itemC (intP (4)) xa1 xb1 xc1 xd1 ++ itemC (intP c.till) xa2 xb2 xc2 xd2).toArray 75;have hP := hP.alloc (.cells (itemC (intP (4)) xa1 xb1 xc1 xd1 ++ itemC (intP c.till) xa2 xb2 xc2 xd2).toArray 75)
    refine Ko hK ?_ fun hHeld => ?_
    ·exact hP.box.cell 3 rfl
    clear hK K
    refine Zo 6 rfl fun K hK => ?_
    rw [if_pos (by rfl)]
    refine wp_app_items _ _ rfl _ _ _ _ rfl hP.own _ _ _ _ [_, _] rfl rfl ((ItemsC.one hI1).app (ItemsC.one hI2)) hZ (by have := HL.out; simp; omega) hP.base fun v7 w7 hown7 hg7 hat7 => ?_
    have hP := hP.app hown7 hg7 hat7;obtain ⟨A7, c7, rfl, _⟩ := hown7.form;obtain ⟨m7, hm7⟩ : ∃ m7, (LL ++ [intP (4), (intP c.till)]).length = m7 := ⟨_, rfl⟩
    rw [hm7] at hP ⊢;have HM7 := Hh hm7;clear hown7 hg7 hat7 hZ hm7
    refine Kz hK ?_
    clear hK K
    refine ZkT 7 rfl (fun h => absurd h (by decide)) ?_
    refine WaysZ.done (by kernel_rfl) ?_
    clear hHeld;go_wp2_with fail
    go_meet
    exact (by rw [E.out, ← HLE.out]; exact ⟨_, _, _, _, rfl, HM7.out.symm, hP⟩)
   case rest =>
    clear hS HLq c3;have hS := hcut;clear hcut;have HLq : Hid (([intP 2, txtI c.subject, intP 8, cnfI c.key] ++ issL c.issuer ++ tickL 4 c.till).length ≤ 1000) := by rw [Hid, issL, tickL]; split <;> split <;> simp
    have c2 : World.cell? _ ⟨w.heap.size, 2, none⟩ = some (.int .i64 c.since) := hS.box.cell 2 rfl;go_upto_if 52 with fail
    go_cut [7] (fun s7 wx => ISt w H (clQ c a) s7 ([intP 2, txtI c.subject, intP 8, cnfI c.key] ++ issL c.issuer ++ tickL 4 c.till ++ tickL 5 c.since) wx)
    case first =>
     have hge : 0 ≤ c.since := by have := HVI.out; omega
     by_cases h0 : c.since = 0
     case pos =>
      have E : Hid ([intP 2, txtI c.subject, intP 8, cnfI c.key] ++ issL c.issuer ++ tickL 4 c.till ++ tickL 5 c.since = [intP 2, txtI c.subject, intP 8, cnfI c.key] ++ issL c.issuer ++ tickL 4 c.till) := by rw [Hid, show tickL 5 c.since = [] from if_neg (by omega), List.append_nil]
      have hi1 : (c.since != 0) = false := by simpa using h0
      have hi2 := eq_true h0;have HS := Hh hS;clear hS h0 hge;go_wp2_with fail
      go_meet
      rw [E.out]
      exact HS.out
     have hi1 : (c.since != 0) = true := by rw [bne_iff_ne]; exact h0
     have hi2 := eq_false h0;have E : Hid ([intP 2, txtI c.subject, intP 8, cnfI c.key] ++ issL c.issuer ++ tickL 4 c.till ++ tickL 5 c.since = [intP 2, txtI c.subject, intP 8, cnfI c.key] ++ issL c.issuer ++ tickL 4 c.till ++ [intP 5, intP c.since]) := by rw [Hid, show tickL 5 c.since = [intP 5, intP c.since] from if_pos (by omega)]
     obtain ⟨LL, hLL⟩ : ∃ LL, LL = [intP 2, txtI c.subject, intP 8, cnfI c.key] ++ issL c.issuer ++ tickL 4 c.till := ⟨_, rfl⟩
     rw [← hLL] at hS HLq;have HLE := Hh hLL;clear hLL;obtain ⟨Hr, VA, m, vc, rfl, hm, hP⟩ := hS;have HL := Hh (And.intro hm HLq.out);clear hm;clear c2 h0 hge;go_upto_region 9 with fail
     clear hi1 hi2;have c2 : World.cell? _ ⟨w.heap.size, 2, none⟩ = some (.int .i64 c.since) := hP.box.cell 2 rfl;replace hP := hP.drew
     refine wp_region_waysZ 6 (fun wx => wx.cell? ⟨w.heap.size, 2, none⟩ = some (.int .i64 c.since)) (by kernel_rfl) (c2) (fun hHeld => ?_)
     refine Zk 0 rfl hHeld ?_
     refine Zk 2 rfl hHeld ?_
     refine Zk 3 rfl hHeld ?_
     refine Zo 1 rfl fun K hK => ?_
     go_simp
     refine (cbor_Int (5) (by omega) (by omega) _ hP.grows.holds).mono ?_
     rintro e w3 ⟨v1, rfl, xa1, xb1, xc1, xd1, H1, rfl, hG1, hI1⟩
     have hP := hP.grow hG1
     refine Ko hK ?_ fun hHeld => ?_
     ·exact hP.box.cell 2 rfl
     clear hK K
     refine Zo 4 rfl fun K hK => ?_
     go_simp
     refine (cbor_Int c.since HC.out.since.1 HC.out.since.2 _ hP.grows.holds).mono ?_
     rintro e w4 ⟨v2, rfl, xa2, xb2, xc2, xd2, H2, rfl, hG2, hI2⟩
     have hP := hP.grow hG2;have hI1 := hI1.mono hG2.le
     refine Ko hK ?_ fun hHeld => ?_
     ·exact hP.box.cell 2 rfl
     clear hK K
     refine Zo 5 rfl fun K hK => ?_
     go_simp
     have hZ := hP.litZ (itemC (intP (5)) xa1 xb1 xc1 xd1 ++ itemC (intP c.since) xa2 xb2 xc2 xd2).toArray 75;have hP := hP.alloc (.cells (itemC (intP (5)) xa1 xb1 xc1 xd1 ++ itemC (intP c.since) xa2 xb2 xc2 xd2).toArray 75)
     refine Ko hK ?_ fun hHeld => ?_
     ·exact hP.box.cell 2 rfl
     clear hK K
     refine Zo 6 rfl fun K hK => ?_
     rw [if_pos (by rfl)]
     refine wp_app_items _ _ rfl _ _ _ _ rfl hP.own _ _ _ _ [_, _] rfl rfl ((ItemsC.one hI1).app (ItemsC.one hI2)) hZ (by have := HL.out; simp; omega) hP.base fun v7 w7 hown7 hg7 hat7 => ?_
     have hP := hP.app hown7 hg7 hat7;obtain ⟨A7, c7, rfl, _⟩ := hown7.form;obtain ⟨m7, hm7⟩ : ∃ m7, (LL ++ [intP (5), (intP c.since)]).length = m7 := ⟨_, rfl⟩
     rw [hm7] at hP ⊢;have HM7 := Hh hm7;clear hown7 hg7 hat7 hZ hm7
     refine Kz hK ?_
     clear hK K
     refine ZkT 7 rfl (fun h => absurd h (by decide)) ?_
     refine WaysZ.done (by kernel_rfl) ?_
     clear hHeld;go_wp2_with fail
     go_meet
     exact (by rw [E.out, ← HLE.out]; exact ⟨_, _, _, _, rfl, HM7.out.symm, hP⟩)
    case rest =>
     clear hS HLq c2;have hS := hcut;clear hcut;obtain ⟨Hr2, VA2, m2, vc2, rfl, hm2, hP⟩ := hS;obtain ⟨H9, hG9, hm9, hr9, hn9⟩ := hP.freeze;have hT := hP.res;have HB := Hh (cbor_BuildN (ps := progC c) (HT.out.mono hG9.le) hr9 (by rw [progC_len]; exact (pairsC_len c).1) (Nat.zero_le _) (by rw [progC_len]; have := (pairsC_len c).2.2; omega) (qs := pairsC c) (progC_len c).symm (progC_perm c) (asc_pairsC c) (progC_valid HV.out) (validP_itmCl HV.out) _ hG9.holds);rw [← show m2 = (progC c).length from hm2] at HB;clear hP hr9 hm9 hm2;go_wp2_with fail
     refine HB.out.mono ?_
     rintro e w10 ⟨v10, rfl, xa, xb, xc, xd, H6, rfl, hG6, hI6⟩
     have hG7 := hG9.trans hG6;have hn6 := hG6.none hn9 hT.lt;replace hT := hT.below hG6.below;clear hG6 hG9 hn9 HB;replace hT := hT.alloc (itemO (.mk 5 0 [] (pairsC c)) xa xb xc xd);replace hG7 := hG7.alloc (itemO (.mk 5 0 [] (pairsC c)) xa xb xc xd);go_upto_region 11 with fail
     go_wp2_with (with_reducible refine stop_store ?_)
     refine stI hT fun w11 hT11 hg11 => ?_
     have hG11 := hG7.grownOwn hn6 (by omega) hg11;clear hT hG7 hg11;go_wp2_with fail
     refine ret_row rfl rfl hT11 rfl rfl size_item rfl ?_
     exact ⟨_, rfl, xa, xb, xc, xd, H6, rfl, hG11, hI6⟩
end Go.Proofs.YtgaoknihklmakaaGreatDoor
