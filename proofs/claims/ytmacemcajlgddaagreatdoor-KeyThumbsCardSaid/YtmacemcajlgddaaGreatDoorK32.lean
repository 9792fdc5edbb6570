/- squeezed. Walks: the reference's copy of a k -/
import Derived.Test.YtmacemcajlgddaaGreatDoorK30
import Derived.Test.YtmacemcajlgddaaGreatDoorK31
set_option linter.unusedVariables false
set_option linter.unusedSimpArgs false
set_option maxRecDepth 100000
set_option maxHeartbeats 12800000
namespace Go.Proofs.YtmacemcajlgddaaGreatDoor
open Go.RowKit
structure KN (W0 : World) (H : Snap) (R K : Nat) (kc : Array Value) (w : World) (Hr : Snap) : Prop where
 grows : Grows W0 H w Hr
 res : Blk w R 24 zeroK
 key : Blk w K 24 kc
 hR : Hr R = none
 hK : Hr K = none
 neRK : R ≠ K
 wR : W0.heap.size ≤ R
 wK : W0.heap.size ≤ K
section
variable {W0 w w' : World} {H Hr Hs : Snap} {R K : Nat} {kc kc' : Array Value}
theorem KN.grow (h : KN W0 H R K kc w Hr) (k : Grows w Hr w' Hs) : KN W0 H R K kc w' Hs :=
 ⟨h.grows.trans k, h.res.below k.below, h.key.below k.below, k.none h.hR h.res.lt, k.none h.hK h.key.lt, h.neRK, h.wR, h.wK⟩
theorem KN.below (h : KN W0 H R K kc w Hr) (k : Below w.heap.size w w') : KN W0 H R K kc w' Hr := h.grow (Grows.of_below h.grows.holds k)
theorem KN.drew (h : KN W0 H R K kc w Hr) : KN W0 H R K kc w.drew Hr := h.below (Below.refl _ _).drew
theorem KN.set (h : KN W0 H R K kc w Hr) (hB : Blk w' K 24 kc') (hg : w.grownBy w' (some K)) : KN W0 H R K kc' w' Hr :=
 ⟨h.grows.grownOwn h.hK h.wK hg, h.res.grown hg (fun e => by injection e with e; exact h.neRK e.symm), hB, h.hR, h.hK, h.neRK, h.wR, h.wK⟩
end
def KeyOut (w : World) (H : Snap) (q : Ky) (e : Ending) (w' : World) : Prop := ∃ a H', e = .returned (.agg (keyQ q a)) ∧ Grows w H w' H' ∧ KeyA H' q a
def SomeKey (w : World) (H : Snap) (e : Ending) (w' : World) : Prop := ∃ q, KeyOut w H q e w'
theorem ref11_Copy {H : Snap} {q : Ky} {a : KAd} (hq : KeyA H q a) (hl : q.kid.length ≤ 1048576 ∧ q.x.length ≤ 1048576 ∧ q.d.length ≤ 1048576 ∧ q.k.length ≤ 1048576) (w : World) (hH : Holds w H) :
  Calls Tryz.prog 14 #[.agg (keyQ q a)] w (KeyOut w H q) := by
 obtain ⟨ni, hni⟩ : ∃ ni, ni = q.kid.length := ⟨_, rfl⟩
 obtain ⟨nx, hnx⟩ : ∃ nx, nx = q.x.length := ⟨_, rfl⟩
 obtain ⟨nd, hnd⟩ : ∃ nd, nd = q.d.length := ⟨_, rfl⟩
 obtain ⟨nk, hnk⟩ : ∃ nk, nk = q.k.length := ⟨_, rfl⟩
 have HN := Hh (And.intro hni (And.intro hnx (And.intro hnd hnk)));have HLN := Hh hl;have HQ := Hh (And.intro hq.kty (And.intro hq.crv hq.alg));have HBi := Hh hq.kid;have HBx := Hh hq.x;have HBd := Hh hq.d;have HBk := Hh hq.k;show Calls Tryz.prog 14 #[.agg (keyC q.kty q.crv q.alg a.ia q.kid.length a.ic a.xa q.x.length a.xc a.da q.d.length a.dc a.ka q.k.length a.kc)] w (KeyOut w H q)
 rw [← hni, ← hnx, ← hnd, ← hnk];have hB1 := (Blk.new w 24 (keyC q.kty q.crv q.alg a.ia ni a.ic a.xa nx a.xc a.da nd a.dc a.ka nk a.kc)).alloc (.cells zeroK 24);have hT := Blk.new (w.alloc (.cells (keyC q.kty q.crv q.alg a.ia ni a.ic a.xa nx a.xc a.da nd a.dc a.ka nk a.kc) 24)) 24 zeroK;rw [size_alloc] at hT;have hKN : KN w H (w.heap.size + 1) w.heap.size (keyC q.kty q.crv q.alg a.ia ni a.ic a.xa nx a.xc a.da nd a.dc a.ka nk a.kc) _ H := ⟨((Grows.refl hH).alloc (.cells (keyC q.kty q.crv q.alg a.ia ni a.ic a.xa nx a.xc a.da nd a.dc a.ka nk a.kc) 24)).alloc (.cells zeroK 24), hT, hB1, hH.none_of_ge (by omega), hH.none_of_ge (Nat.le_refl _), by omega, by omega, Nat.le_refl _⟩
 clear hni hnx hnd hnk hl hq hB1 hT hH;go_enter Tryz.func14, Tryz.ntmps14
 have e3 := hKN.key.cell 3 rfl;have e4 := hKN.key.cell 4 rfl;go_upto_region 1 with fail
 go_cut [1] (fun s1 wx => s1 = .pointer (some ⟨w.heap.size, 0, none⟩) ∧ ∃ Ai ci Ax cx Hr, KN w H (w.heap.size + 1) w.heap.size (keyC q.kty q.crv q.alg Ai ni ci Ax nx cx a.da nd a.dc a.ka nk a.kc) wx Hr ∧ IsBytes Hr Ai ci q.kid ∧ IsBytes Hr Ax cx q.x ∧ IsBytes Hr a.da a.dc q.d ∧ IsBytes Hr a.ka a.kc q.k)
 case first =>
  replace hKN := hKN.drew
  refine wp_region_waysZ 7 (fun wx => wx.cell? ⟨w.heap.size, 3, none⟩ = some (.slice a.ia ni a.ic) ∧ wx.cell? ⟨w.heap.size, 4, none⟩ = some (.slice a.xa nx a.xc)) (by kernel_rfl) (⟨e3, e4⟩) (fun hHeld => ?_)
  refine Zk 0 rfl hHeld ?_
  refine Zk 1 rfl hHeld ?_
  refine Zk 3 rfl hHeld ?_
  refine Zk 4 rfl hHeld ?_
  refine Zo 2 rfl fun K hK => ?_
  rw [if_pos (by rfl)]
  refine wp_app_bytes _ _ rfl _ (.slice none 0 0) [] rfl (OwnB.nil _ _) _ _ _ q.kid rfl HN.out.1 (Src.of_row HBi.out.row hKN.grows.holds) (by have := HLN.out; simp; omega) (Nat.le_refl _) fun v1 w1 hO1 hg1 ha1 => ?_
  rw [List.nil_append] at hO1;obtain ⟨Ai, ci, rfl, hjk⟩ := hO1.form;clear hjk;obtain ⟨Hs1, hGs1, hbs1, hjk⟩ := Fresh.snapB hKN.grows.holds ⟨hO1, grown_none hg1⟩;clear hjk;replace hKN := hKN.grow hGs1;replace HBi := Hh (HBi.out.mono hGs1.le);replace HBx := Hh (HBx.out.mono hGs1.le);replace HBd := Hh (HBd.out.mono hGs1.le);replace HBk := Hh (HBk.out.mono hGs1.le);have HS1 := Hh hbs1;rw [show q.kid.length = ni from HN.out.1.symm];clear hO1 hg1 ha1 hGs1 hbs1
  refine hK.out _ _ (fun _ => ?_) (fun hHeld => ?_)
  ·exact ⟨hKN.key.cell 3 rfl, hKN.key.cell 4 rfl⟩
  clear hK K;have hHeld := hHeld (by decide)
  try simp only [Act.put, zz1, zz2, zz3, zz4, zz5, zz6]
  refine Zk 6 rfl hHeld ?_
  refine Zo 5 rfl fun K hK => ?_
  rw [if_pos (by rfl)]
  refine wp_app_bytes _ _ rfl _ (.slice none 0 0) [] rfl (OwnB.nil _ _) _ _ _ q.x rfl HN.out.2.1 (Src.of_row HBx.out.row hKN.grows.holds) (by have := HLN.out; simp; omega) (Nat.le_refl _) fun v2 w2 hO2 hg2 ha2 => ?_
  rw [List.nil_append] at hO2;obtain ⟨Ax, cx, rfl, hjk⟩ := hO2.form;clear hjk;obtain ⟨Hs2, hGs2, hbs2, hjk⟩ := Fresh.snapB hKN.grows.holds ⟨hO2, grown_none hg2⟩;clear hjk;replace hKN := hKN.grow hGs2;replace HBi := Hh (HBi.out.mono hGs2.le);replace HBx := Hh (HBx.out.mono hGs2.le);replace HBd := Hh (HBd.out.mono hGs2.le);replace HBk := Hh (HBk.out.mono hGs2.le);replace HS1 := Hh (HS1.out.mono hGs2.le);have HS2 := Hh hbs2;rw [show q.x.length = nx from HN.out.2.1.symm];clear hO2 hg2 ha2 hGs2 hbs2
  refine hK.out _ _ (fun _ => ?_) (fun hHeld => ?_)
  ·exact ⟨hKN.key.cell 3 rfl, hKN.key.cell 4 rfl⟩
  clear hK K;have hHeld := hHeld (by decide)
  try simp only [Act.put, zz1, zz2, zz3, zz4, zz5, zz6]
  refine Zo 7 rfl fun K hK => ?_
  rw [if_pos (by rfl)]
  refine wp_store_cell _ _ _ rfl w.heap.size 3 (.slice Ai ni ci) rfl rfl _ _ hKN.key (by kernel_rfl) (by simp) rfl fun wt1 hBt hgt => ?_
  replace hKN := hKN.set (kc' := keyC q.kty q.crv q.alg Ai ni ci a.xa nx a.xc a.da nd a.dc a.ka nk a.kc) hBt hgt;clear hBt hgt
  refine hK.out _ _ (fun h => absurd h (by decide)) (fun _ => ?_)
  clear hK K
  try simp only [Act.put, zz1, zz2, zz3, zz4, zz5, zz6]
  refine ZkT 8 rfl (fun h => absurd h (by decide)) ?_
  refine Zo 9 rfl fun K hK => ?_
  rw [if_pos (by rfl)]
  refine wp_store_cell _ _ _ rfl w.heap.size 4 (.slice Ax nx cx) rfl rfl _ _ hKN.key (by kernel_rfl) (by simp) rfl fun wt2 hBt hgt => ?_
  replace hKN := hKN.set (kc' := keyC q.kty q.crv q.alg Ai ni ci Ax nx cx a.da nd a.dc a.ka nk a.kc) hBt hgt;clear hBt hgt
  refine hK.out _ _ (fun h => absurd h (by decide)) (fun _ => ?_)
  clear hK K
  try simp only [Act.put, zz1, zz2, zz3, zz4, zz5, zz6]
  refine WaysZ.done (by kernel_rfl) ?_
  clear hHeld;go_wp2_with fail
  go_meet
  exact ⟨rfl, Ai, ci, Ax, cx, _, hKN, HS1.out, HS2.out, HBd.out, HBk.out⟩
 case rest =>
  clear hKN e3 e4 HBi HBx HBd HBk;obtain ⟨rfl, Ai, ci, Ax, cx, Hq1, hKN, hbi, hbx, hbd, hbk⟩ := hcut;have HBi := Hh hbi;have HBx := Hh hbx;have HBd := Hh hbd;have HBk := Hh hbk;clear hbi hbx hbd hbk;have e5 := hKN.key.cell 5 rfl;have e6 := hKN.key.cell 6 rfl;go_upto_region 2 with fail
  go_cut [1] (fun s1 wx => s1 = .pointer (some ⟨w.heap.size, 0, none⟩) ∧ ∃ Ad cd Ak ck Hr, KN w H (w.heap.size + 1) w.heap.size (keyC q.kty q.crv q.alg Ai ni ci Ax nx cx Ad nd cd Ak nk ck) wx Hr ∧ IsBytes Hr Ai ci q.kid ∧ IsBytes Hr Ax cx q.x ∧ IsBytes Hr Ad cd q.d ∧ IsBytes Hr Ak ck q.k)
  case first =>
   replace hKN := hKN.drew
   refine wp_region_waysZ 7 (fun wx => wx.cell? ⟨w.heap.size, 5, none⟩ = some (.slice a.da nd a.dc) ∧ wx.cell? ⟨w.heap.size, 6, none⟩ = some (.slice a.ka nk a.kc)) (by kernel_rfl) (⟨e5, e6⟩) (fun hHeld => ?_)
   refine Zk 0 rfl hHeld ?_
   refine Zk 1 rfl hHeld ?_
   refine Zk 3 rfl hHeld ?_
   refine Zk 4 rfl hHeld ?_
   refine Zo 2 rfl fun K hK => ?_
   rw [if_pos (by rfl)]
   refine wp_app_bytes _ _ rfl _ (.slice none 0 0) [] rfl (OwnB.nil _ _) _ _ _ q.d rfl HN.out.2.2.1 (Src.of_row HBd.out.row hKN.grows.holds) (by have := HLN.out; simp; omega) (Nat.le_refl _) fun v1 w1 hO1 hg1 ha1 => ?_
   rw [List.nil_append] at hO1;obtain ⟨Ad, cd, rfl, hjk⟩ := hO1.form;clear hjk;obtain ⟨Hs1, hGs1, hbs1, hjk⟩ := Fresh.snapB hKN.grows.holds ⟨hO1, grown_none hg1⟩;clear hjk;replace hKN := hKN.grow hGs1;replace HBi := Hh (HBi.out.mono hGs1.le);replace HBx := Hh (HBx.out.mono hGs1.le);replace HBd := Hh (HBd.out.mono hGs1.le);replace HBk := Hh (HBk.out.mono hGs1.le);have HS1 := Hh hbs1;rw [show q.d.length = nd from HN.out.2.2.1.symm];clear hO1 hg1 ha1 hGs1 hbs1
   refine hK.out _ _ (fun _ => ?_) (fun hHeld => ?_)
   ·exact ⟨hKN.key.cell 5 rfl, hKN.key.cell 6 rfl⟩
   clear hK K;have hHeld := hHeld (by decide)
   try simp only [Act.put, zz1, zz2, zz3, zz4, zz5, zz6]
   refine Zk 6 rfl hHeld ?_
   refine Zo 5 rfl fun K hK => ?_
   rw [if_pos (by rfl)]
   refine wp_app_bytes _ _ rfl _ (.slice none 0 0) [] rfl (OwnB.nil _ _) _ _ _ q.k rfl HN.out.2.2.2 (Src.of_row HBk.out.row hKN.grows.holds) (by have := HLN.out; simp; omega) (Nat.le_refl _) fun v2 w2 hO2 hg2 ha2 => ?_
   rw [List.nil_append] at hO2;obtain ⟨Ak, ck, rfl, hjk⟩ := hO2.form;clear hjk;obtain ⟨Hs2, hGs2, hbs2, hjk⟩ := Fresh.snapB hKN.grows.holds ⟨hO2, grown_none hg2⟩;clear hjk;replace hKN := hKN.grow hGs2;replace HBi := Hh (HBi.out.mono hGs2.le);replace HBx := Hh (HBx.out.mono hGs2.le);replace HBd := Hh (HBd.out.mono hGs2.le);replace HBk := Hh (HBk.out.mono hGs2.le);replace HS1 := Hh (HS1.out.mono hGs2.le);have HS2 := Hh hbs2;rw [show q.k.length = nk from HN.out.2.2.2.symm];clear hO2 hg2 ha2 hGs2 hbs2
   refine hK.out _ _ (fun _ => ?_) (fun hHeld => ?_)
   ·exact ⟨hKN.key.cell 5 rfl, hKN.key.cell 6 rfl⟩
   clear hK K;have hHeld := hHeld (by decide)
   try simp only [Act.put, zz1, zz2, zz3, zz4, zz5, zz6]
   refine Zo 7 rfl fun K hK => ?_
   rw [if_pos (by rfl)]
   refine wp_store_cell _ _ _ rfl w.heap.size 5 (.slice Ad nd cd) rfl rfl _ _ hKN.key (by kernel_rfl) (by simp) rfl fun wt1 hBt hgt => ?_
   replace hKN := hKN.set (kc' := keyC q.kty q.crv q.alg Ai ni ci Ax nx cx Ad nd cd a.ka nk a.kc) hBt hgt;clear hBt hgt
   refine hK.out _ _ (fun h => absurd h (by decide)) (fun _ => ?_)
   clear hK K
   try simp only [Act.put, zz1, zz2, zz3, zz4, zz5, zz6]
   refine ZkT 8 rfl (fun h => absurd h (by decide)) ?_
   refine Zo 9 rfl fun K hK => ?_
   rw [if_pos (by rfl)]
   refine wp_store_cell _ _ _ rfl w.heap.size 6 (.slice Ak nk ck) rfl rfl _ _ hKN.key (by kernel_rfl) (by simp) rfl fun wt2 hBt hgt => ?_
   replace hKN := hKN.set (kc' := keyC q.kty q.crv q.alg Ai ni ci Ax nx cx Ad nd cd Ak nk ck) hBt hgt;clear hBt hgt
   refine hK.out _ _ (fun h => absurd h (by decide)) (fun _ => ?_)
   clear hK K
   try simp only [Act.put, zz1, zz2, zz3, zz4, zz5, zz6]
   refine WaysZ.done (by kernel_rfl) ?_
   clear hHeld;go_wp2_with fail
   go_meet
   exact ⟨rfl, Ad, cd, Ak, ck, _, hKN, HBi.out, HBx.out, HS1.out, HS2.out⟩
  case rest =>
   clear hKN e5 e6 HBi HBx HBd HBk;obtain ⟨rfl, Ad, cd, Ak, ck, Hq2, hKN, hbi, hbx, hbd, hbk⟩ := hcut;have HBi := Hh hbi;have HBx := Hh hbx;have HBd := Hh hbd;have HBk := Hh hbk;clear hbi hbx hbd hbk;have c0 := hKN.key.cell 0 rfl;have c1 := hKN.key.cell 1 rfl;have c2 := hKN.key.cell 2 rfl;have c3 := hKN.key.cell 3 rfl;have c4 := hKN.key.cell 4 rfl;have c5 := hKN.key.cell 5 rfl;have c6 := hKN.key.cell 6 rfl;have HKM := Hh hKN;have hRR := hKN.res;clear hKN;go_wp2_with (with_reducible refine stop_store ?_)
   refine wpList_store_item rfl _ _ _ rfl rfl _ _ rfl rfl _ _ hRR size_key rfl (one7 _ _ _ _ _ _ _ rfl rfl rfl rfl rfl rfl rfl) fun wz hRz hgz => ?_
   have hdz := HKM.out.grows.grownOwn HKM.out.hR HKM.out.wR hgz;clear HKM hRR hgz c0 c1 c2 c3 c4 c5 c6;go_wp2_with fail
   refine ret_row rfl rfl hRz rfl rfl size_key rfl ?_
   obtain ⟨rfl, rfl, rfl, rfl⟩ := HN.out
   exact ⟨⟨Ai, ci, Ax, cx, Ad, cd, Ak, ck⟩, _, rfl, hdz, ⟨HQ.out.1, HQ.out.2.1, HQ.out.2.2, HBi.out, HBx.out, HBd.out, HBk.out⟩⟩
end Go.Proofs.YtmacemcajlgddaaGreatDoor
