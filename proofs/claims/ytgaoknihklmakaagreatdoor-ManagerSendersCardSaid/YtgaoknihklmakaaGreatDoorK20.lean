/- squeezed. Walks: the two closures of cred.cl -/
import Derived.Test.YtgaoknihklmakaaGreatDoorK19
import Derived.Test.YtgaoknihklmakaaGreatDoorK07
import Derived.Test.YtgaoknihklmakaaGreatDoorK05
import Derived.Test.YtgaoknihklmakaaGreatDoorK18
import Derived.Test.YtgaoknihklmakaaGreatDoorK11
set_option linter.unusedVariables false
set_option linter.unusedSimpArgs false
set_option maxRecDepth 100000
set_option maxHeartbeats 51200000
namespace Go.Proofs.YtgaoknihklmakaaGreatDoor
open Go.RowKit
theorem findP_mem {m k y : Itm} (h : findP m k = some y) : y ∈ m.items ∧ validP m = true := by
 unfold findP at h
 split at h
 ·rename_i hc
  rw [findL_pairs] at h
  cases hq : (pairsOf m.items).find? (fun p => decide (encB p.1 = encB k)) with
  | none => rw [hq] at h; cases h
  | some q =>
   rw [hq] at h;injection h with h
   rw [← h]
   exact ⟨(pairsOf_mem (List.mem_of_find?_eq_some hq)).2, hc.2.1⟩
 ·cases h
theorem sF_valid {x : Itm} (n : Int) : validP (sF x n) = true := by
 unfold sF
 cases h : findP x (intP n) with
 | none => exact validP_int 0
 | some y => exact validP_elem (findP_mem h).2 (findP_mem h).1
theorem sF_bytes {x : Itm} (n : Int) : (sF x n).bytes.length ≤ 4096 := (validP_items (sF_valid n)).1
theorem NB.grow {W0 w w' : World} {Hr Hs : Snap} {g : Nat} {c : Array Value} (n : NB W0 Hr w g c) (k : Grows w Hr w' Hs) : NB W0 Hs w' g c := ⟨n.blk.below k.below, k.none n.none n.blk.lt, n.far⟩
theorem progCl_fail1 {x : Itm} (h : findP (sF x 8) (intP 1) = none) : claimsP x = none := by rw [← progCl_eq, progCl, h]
theorem progCl_fail2 {x v : Itm} (h : findP (sF x 8) (intP 1) = some v) (hk : keyB v = false) : claimsP x = none := by
 rw [← progCl_eq, progCl, h]
 simp [hk]
theorem progCl_fail3 {x v : Itm} (h : findP (sF x 8) (intP 1) = some v) (hk : keyB v = true) (hn : validC (readC x v) = false ∨ itmCl (readC x v) ≠ x) : claimsP x = none := by
 rw [← progCl_eq, progCl, h]
 simp only [hk, if_true]
 rw [if_neg]
 intro hc
 rw [Bool.and_eq_true, sameB_iff] at hc
 rcases hn with hn | hn
 ·rw [hc.1] at hn; cases hn
 ·exact hn hc.2
theorem progCl_ok {x v : Itm} (h : findP (sF x 8) (intP 1) = some v) (hk : keyB v = true) (hc : validC (readC x v) = true) (he : itmCl (readC x v) = x) : claimsP x = some (readC x v) := by
 rw [← progCl_eq, progCl, h]
 simp only [hk, if_true]
 rw [if_pos (by rw [Bool.and_eq_true, sameB_iff]; exact ⟨hc, he⟩)]
theorem cmp_same {x y : Itm} (hx : validP x = true) (hy : validP y = true) (nx : Nums x) (ny : Nums y) (h : Lib.compareBytes (encB x) (encB y) = 0) : x = y :=
 (encB_inj x y 0 0 [] [] (Fits.of hx nx) (Fits.of hy ny) (by rw [(cmp_zero _ _).1 h])).1
theorem claims_text {H : Snap} (hTab : Tabs H) {x : Itm} {xa : Option Addr} {xb : Nat} {xc : Option Addr} {xd : Nat} (hx : IsItem H xa xb xc xd x) (n : Int) (hn1 : -9223372036854775808 ≤ n) (hn2 : n ≤ 9223372036854775807) (w : World) (hH : Holds w H)
  {B : Nat} (hB : Blk w B 75 #[.int .i64 x.kind, .int .u64 x.n, .slice xa x.bytes.length xb, .slice xc x.items.length xd]) :
  Calls Tryz.prog 45 #[.int .i64 n, .pointer (some ⟨B, 0, none⟩)] w fun e w' => e = .returned (.string (strOf (sF x n).bytes)) ∧ Below w.heap.size w w' := by
 have hG := Grows.refl hH;have HX := Hh hx;have HT := Hh hTab;obtain ⟨o, ho⟩ : ∃ o, findP x (intP n) = o := ⟨_, rfl⟩
 have HO := Hh ho;have HF : Hid (sF x n = o.getD zeroItm) := by rw [Hid, sF, ho]
 have HN := Hh (And.intro hn1 hn2);clear ho hx hTab hn1 hn2;have c0 := hB.cell 0 rfl;have c1 := hB.cell 1 rfl;have c2 := hB.cell 2 rfl;have c3 := hB.cell 3 rfl;go_enter Tryz.func45, Tryz.ntmps45
 go_upto_region 1 with fail
 replace hB := hB.drew;replace hG := hG.drew
 refine wp_region_ways 10 (fun wx => wx.cell? ⟨B, 0, none⟩ = some (.int .i64 x.kind) ∧ wx.cell? ⟨B, 1, none⟩ = some (.int .u64 x.n) ∧ wx.cell? ⟨B, 2, none⟩ = some (.slice xa x.bytes.length xb) ∧ wx.cell? ⟨B, 3, none⟩ = some (.slice xc x.items.length xd)) (by kernel_rfl) (⟨c0, c1, c2, c3⟩) (fun hHeld => ?_)
 repeat' first
  | (
   revert k2
   intro hK
   go_simp
   refine (cbor_Int n HN.out.1 HN.out.2 _ hG.holds).mono ?_
   rintro e w3 ⟨v1, rfl, xa1, xb1, xc1, xd1, H1, rfl, hG1, hI1⟩
   try replace hH9 := hG1.none hH9 hD.lt
   try replace hD := hD.below hG1.below
   replace hB := hB.below hG1.below;replace hG := hG.trans hG1
   refine Ko hK ?_ fun hHeld => ?_
   ·exact ⟨hB.cell 0 rfl, hB.cell 1 rfl, hB.cell 2 rfl, hB.cell 3 rfl⟩
   clear hK K)
  | (
   revert k3
   intro hK
   go_simp
   refine (cbor_Find (HT.out.mono hG.le) (HX.out.mono hG.le).arg hI1.arg _ hG.holds).mono ?_
   rw [HO.out];rintro e w4 ⟨v4, rfl, ja, jb, jc, jd, H4, rfl, hG4, hI4⟩
   obtain ⟨q, hq⟩ : ∃ q, o.isSome = q := ⟨_, rfl⟩
   obtain ⟨f, hf⟩ : ∃ f, o.getD zeroItm = f := ⟨_, rfl⟩
   rw [hf] at hI4 ⊢;rw [hq];have HFF := Hh (HF.out.trans hf);clear hq hf
   try replace hH9 := hG4.none hH9 hD.lt
   try replace hD := hD.below hG4.below
   replace hB := hB.below hG4.below;replace hG := hG.trans hG4
   refine Ko hK ?_ fun hHeld => ?_
   ·exact ⟨hB.cell 0 rfl, hB.cell 1 rfl, hB.cell 2 rfl, hB.cell 3 rfl⟩
   clear hK K)
  | (
   revert k7
   intro hK
   go_simp
   have hD := hG.newBlk 75 zeroC;have hH9 := hG.hidden (Nat.le_refl _);have hl9 := hG.size;have hbn := hB.lt;replace hB := hB.alloc (.cells zeroC 75);replace hG := hG.alloc (.cells zeroC 75)
   try simp only [drew_heap, size_alloc] at hD
   try simp only [drew_heap, size_alloc] at hH9
   try simp only [drew_heap, size_alloc] at hl9
   try simp only [drew_heap, size_alloc] at hbn
   refine Ko hK ?_ fun hHeld => ?_
   ·exact ⟨hB.cell 0 rfl, hB.cell 1 rfl, hB.cell 2 rfl, hB.cell 3 rfl⟩
   clear hK K)
  | (
   revert k8
   intro hK
   rw [if_pos (by rfl)]
   refine wp_store_item _ _ _ rfl _ _ rfl rfl _ _ hD size_item rfl (one4 _ _ _ _ rfl rfl rfl rfl) fun w10 hD10 hg10 => ?_
   have hG := hG.grownOwn hH9 hl9 hg10;have hB := hB.grown hg10 (fun e => by injection e with e; omega)
   refine Ko hK ?_ fun hHeld => ?_
   ·exact ⟨hB.cell 0 rfl, hB.cell 1 rfl, hB.cell 2 rfl, hB.cell 3 rfl⟩
   clear hK K)
  | simp only [Act.put, zz1, zz2, zz3, zz4, zz5, zz6]
  | refine TkS 0 rfl hHeld ?_ (hs:=by decide +kernel)
  | refine TkS 1 rfl hHeld ?_ (hs:=by decide +kernel)
  | refine TkS 4 rfl hHeld ?_ (hs:=by decide +kernel)
  | refine TkS 5 rfl hHeld ?_ (hs:=by decide +kernel)
  | refine TkS 6 rfl hHeld ?_ (hs:=by decide +kernel)
  | refine TkS 9 rfl hHeld ?_ (hs:=by decide +kernel)
  | refine Ways.two (i := 2) (j := 7) rfl rfl (by decide +kernel) (fun K k2 => ?_) (fun K k7 => ?_)
  | refine Ways.two (i := 3) (j := 7) rfl rfl (by decide +kernel) (fun K k3 => ?_) (fun K k7 => ?_)
  | refine To 7 rfl (fun K k7 => ?_) (by decide +kernel)
  | refine To 8 rfl (fun K k8 => ?_) (by decide +kernel)
  | refine To 3 rfl (fun K k3 => ?_) (by decide +kernel)
  | refine To 2 rfl (fun K k2 => ?_) (by decide +kernel)
  | (
   refine Wd ?_ (by decide +kernel)
   have cv := conv_bytes (Src.of_row hI4.bytes.row hG.holds) f.bytes.length jb rfl;have d2 := hD10.cell 2 rfl;have hbb := hG.below;have E : Hid (strOf (sF x n).bytes = ⟨f.bytes.toArray⟩) := by rw [Hid, HFF.out]; rfl
   clear hHeld hB hG hD10 hI4 hI1;go_wp2_with fail
   go_ret
   exact ⟨by rw [E.out]; rfl, hbb⟩)
theorem claims_number {H : Snap} (hTab : Tabs H) {x : Itm} {xa : Option Addr} {xb : Nat} {xc : Option Addr} {xd : Nat} (hx : IsItem H xa xb xc xd x) (n : Int) (hn1 : -9223372036854775808 ≤ n) (hn2 : n ≤ 9223372036854775807) (w : World) (hH : Holds w H)
  {B : Nat} (hB : Blk w B 75 #[.int .i64 x.kind, .int .u64 x.n, .slice xa x.bytes.length xb, .slice xc x.items.length xd]) :
  Calls Tryz.prog 48 #[.int .i64 n, .pointer (some ⟨B, 0, none⟩)] w fun e w' => e = .returned (.int .i64 (numF x n)) ∧ Below w.heap.size w w' := by
 have hG := Grows.refl hH;have HX := Hh hx;have HT := Hh hTab;obtain ⟨o, ho⟩ : ∃ o, findP x (intP n) = o := ⟨_, rfl⟩
 have HO := Hh ho;have HF : Hid (sF x n = o.getD zeroItm) := by rw [Hid, sF, ho]
 have HN := Hh (And.intro hn1 hn2);clear ho hx hTab hn1 hn2;have c0 := hB.cell 0 rfl;have c1 := hB.cell 1 rfl;have c2 := hB.cell 2 rfl;have c3 := hB.cell 3 rfl;go_enter Tryz.func48, Tryz.ntmps48
 go_upto_region 1 with fail
 replace hB := hB.drew;replace hG := hG.drew
 refine wp_region_ways 10 (fun wx => wx.cell? ⟨B, 0, none⟩ = some (.int .i64 x.kind) ∧ wx.cell? ⟨B, 1, none⟩ = some (.int .u64 x.n) ∧ wx.cell? ⟨B, 2, none⟩ = some (.slice xa x.bytes.length xb) ∧ wx.cell? ⟨B, 3, none⟩ = some (.slice xc x.items.length xd)) (by kernel_rfl) (⟨c0, c1, c2, c3⟩) (fun hHeld => ?_)
 repeat' first
  | (
   revert k2
   intro hK
   go_simp
   refine (cbor_Int n HN.out.1 HN.out.2 _ hG.holds).mono ?_
   rintro e w3 ⟨v1, rfl, xa1, xb1, xc1, xd1, H1, rfl, hG1, hI1⟩
   try replace hH9 := hG1.none hH9 hD.lt
   try replace hD := hD.below hG1.below
   replace hB := hB.below hG1.below;replace hG := hG.trans hG1
   refine Ko hK ?_ fun hHeld => ?_
   ·exact ⟨hB.cell 0 rfl, hB.cell 1 rfl, hB.cell 2 rfl, hB.cell 3 rfl⟩
   clear hK K)
  | (
   revert k3
   intro hK
   go_simp
   refine (cbor_Find (HT.out.mono hG.le) (HX.out.mono hG.le).arg hI1.arg _ hG.holds).mono ?_
   rw [HO.out];rintro e w4 ⟨v4, rfl, ja, jb, jc, jd, H4, rfl, hG4, hI4⟩
   obtain ⟨q, hq⟩ : ∃ q, o.isSome = q := ⟨_, rfl⟩
   obtain ⟨f, hf⟩ : ∃ f, o.getD zeroItm = f := ⟨_, rfl⟩
   rw [hf] at hI4 ⊢;rw [hq];have HFF := Hh (HF.out.trans hf);clear hq hf
   try replace hH9 := hG4.none hH9 hD.lt
   try replace hD := hD.below hG4.below
   replace hB := hB.below hG4.below;replace hG := hG.trans hG4
   refine Ko hK ?_ fun hHeld => ?_
   ·exact ⟨hB.cell 0 rfl, hB.cell 1 rfl, hB.cell 2 rfl, hB.cell 3 rfl⟩
   clear hK K)
  | (
   revert k7
   intro hK
   go_simp
   have hD := hG.newBlk 75 zeroC;have hH9 := hG.hidden (Nat.le_refl _);have hl9 := hG.size;have hbn := hB.lt;replace hB := hB.alloc (.cells zeroC 75);replace hG := hG.alloc (.cells zeroC 75)
   try simp only [drew_heap, size_alloc] at hD
   try simp only [drew_heap, size_alloc] at hH9
   try simp only [drew_heap, size_alloc] at hl9
   try simp only [drew_heap, size_alloc] at hbn
   refine Ko hK ?_ fun hHeld => ?_
   ·exact ⟨hB.cell 0 rfl, hB.cell 1 rfl, hB.cell 2 rfl, hB.cell 3 rfl⟩
   clear hK K)
  | (
   revert k8
   intro hK
   rw [if_pos (by rfl)]
   refine wp_store_item _ _ _ rfl _ _ rfl rfl _ _ hD size_item rfl (one4 _ _ _ _ rfl rfl rfl rfl) fun w10 hD10 hg10 => ?_
   have hG := hG.grownOwn hH9 hl9 hg10;have hB := hB.grown hg10 (fun e => by injection e with e; omega)
   refine Ko hK ?_ fun hHeld => ?_
   ·exact ⟨hB.cell 0 rfl, hB.cell 1 rfl, hB.cell 2 rfl, hB.cell 3 rfl⟩
   clear hK K)
  | simp only [Act.put, zz1, zz2, zz3, zz4, zz5, zz6]
  | refine TkS 0 rfl hHeld ?_ (hs:=by decide +kernel)
  | refine TkS 1 rfl hHeld ?_ (hs:=by decide +kernel)
  | refine TkS 4 rfl hHeld ?_ (hs:=by decide +kernel)
  | refine TkS 5 rfl hHeld ?_ (hs:=by decide +kernel)
  | refine TkS 6 rfl hHeld ?_ (hs:=by decide +kernel)
  | refine TkS 9 rfl hHeld ?_ (hs:=by decide +kernel)
  | refine Ways.two (i := 2) (j := 7) rfl rfl (by decide +kernel) (fun K k2 => ?_) (fun K k7 => ?_)
  | refine Ways.two (i := 3) (j := 7) rfl rfl (by decide +kernel) (fun K k3 => ?_) (fun K k7 => ?_)
  | refine To 7 rfl (fun K k7 => ?_) (by decide +kernel)
  | refine To 8 rfl (fun K k8 => ?_) (by decide +kernel)
  | refine To 3 rfl (fun K k3 => ?_) (by decide +kernel)
  | refine To 2 rfl (fun K k2 => ?_) (by decide +kernel)
  | (
   refine Wd ?_ (by decide +kernel)
   have d1 := hD10.cell 1 rfl;have hbb := hG.below;obtain ⟨m, hm⟩ : ∃ m, numF x n = m := ⟨_, rfl⟩
   have MNX : min (f.n : Int) 1073741825 = m := by rw [← hm, numF, HFF.out]; omega
   have MB : 0 ≤ m ∧ m ≤ 1073741825 := by rw [← hm, numF]; omega
   have MW : IntKind.i64.wrap m = m := IntWalk.i64_in _ (by omega);have E := Hh hm;clear hHeld hB hG hD10 hI4 hI1 hm MB;go_wp2_with fail
   go_ret
   exact ⟨by rw [E.out]; rfl, hbb⟩)
theorem cred_claims {H : Snap} (hTab : Tabs H) {x : Itm} (hvx : validP x = true) {ba : Option Addr} {bc : Nat} {ia : Option Addr} {ic : Nat} (hx : IsItem H ba bc ia ic x) (w : World) (hH : Holds w H) :
  Calls Tryz.prog 35 #[itemV x ba bc ia ic] w (ClaimsOut w H x) := by
 have hX := ((Blk.new w 75 #[.int .i64 x.kind, .int .u64 x.n, .slice ba x.bytes.length bc, .slice ia x.items.length ic]).alloc (.cells zeroCl 62)).alloc (.cells zeroCl 62);have hR := (Blk.new (w.alloc (itemO x ba bc ia ic)) 62 zeroCl).alloc (.cells zeroCl 62);have hV := Blk.new ((w.alloc (itemO x ba bc ia ic)).alloc (.cells zeroCl 62)) 62 zeroCl;rw [size_alloc] at hR;rw [size_alloc, size_alloc] at hV;have hCS : CS w H #[.int .i64 x.kind, .int .u64 x.n, .slice ba x.bytes.length bc, .slice ia x.items.length ic] zeroCl _ H := ⟨(((Grows.refl hH).alloc (itemO x ba bc ia ic)).alloc (.cells zeroCl 62)).alloc (.cells zeroCl 62), hX, hR, hV, hH.none_of_ge (by omega), hH.none_of_ge (by omega)⟩
 have HT := Hh hTab;have HI := Hh hx;have HV := Hh hvx;clear hTab hx hvx hH hX hR hV;obtain ⟨W3, hW3⟩ : ∃ W3, ((w.alloc (itemO x ba bc ia ic)).alloc (.cells zeroCl 62)).alloc (.cells zeroCl 62) = W3 := ⟨_, rfl⟩
 rw [hW3] at hCS;have HW3 := Hh hW3;clear hW3;go_enter Tryz.func35, Tryz.ntmps35
 go_upto_region 4 with fail
 rw [show ((w.alloc (.cells #[.int .i64 x.kind, .int .u64 x.n, .slice ba x.bytes.length bc, .slice ia x.items.length ic] 75)).alloc (.cells zeroCl 62)).alloc (.cells zeroCl 62) = W3 from HW3.out];clear HW3;go_wp2_with fail
 refine (claims_text (HT.out.mono hCS.grows.le) (HI.out.mono hCS.grows.le) 1 (by omega) (by omega) _ hCS.grows.holds hCS.box).mono ?_
 rintro e w4 ⟨rfl, hb4⟩
 replace hCS := hCS.below hb4;obtain ⟨s1, hs1⟩ : ∃ s, strOf (sF x 1).bytes = s := ⟨_, rfl⟩
 rw [hs1];have HS1 := Hh hs1;clear hb4 hs1;go_wp2_with fail
 refine (claims_text (HT.out.mono hCS.grows.le) (HI.out.mono hCS.grows.le) 2 (by omega) (by omega) _ hCS.grows.holds hCS.box).mono ?_
 rintro e w5 ⟨rfl, hb5⟩
 replace hCS := hCS.below hb5;obtain ⟨s2, hs2⟩ : ∃ s, strOf (sF x 2).bytes = s := ⟨_, rfl⟩
 rw [hs2];have HS2 := Hh hs2;clear hb5 hs2;go_wp2_with (with_reducible refine stop_store ?_)
 refine wpList_store_cell rfl _ _ _ rfl rfl (w.heap.size + 2) 0 (.string s1) rfl rfl _ _ hCS.var (by kernel_rfl) (by simp) rfl fun wt hBt hgt => ?_
 replace hCS := hCS.set (cc' := (clC s1 ⟨#[]⟩ 0 0 0 0 0 none 0 0 none 0 0 none 0 0 none 0 0)) hBt hgt;clear hBt hgt;go_wp2_with (with_reducible refine stop_store ?_)
 refine wpList_store_cell rfl _ _ _ rfl rfl (w.heap.size + 2) 1 (.string s2) rfl rfl _ _ hCS.var (by kernel_rfl) (by simp) rfl fun wt' hBt hgt => ?_
 replace hCS := hCS.set (cc' := (clC s1 s2 0 0 0 0 0 none 0 0 none 0 0 none 0 0 none 0 0)) hBt hgt;clear hBt hgt;go_wp2_with fail
 refine (claims_number (HT.out.mono hCS.grows.le) (HI.out.mono hCS.grows.le) 4 (by omega) (by omega) _ hCS.grows.holds hCS.box).mono ?_
 rintro e w6 ⟨rfl, hb6⟩
 replace hCS := hCS.below hb6;obtain ⟨tu, htu⟩ : ∃ m, numF x 4 = m := ⟨_, rfl⟩
 rw [htu];have HTU := Hh htu;clear hb6 htu;go_wp2_with fail
 refine (claims_number (HT.out.mono hCS.grows.le) (HI.out.mono hCS.grows.le) 5 (by omega) (by omega) _ hCS.grows.holds hCS.box).mono ?_
 rintro e w7 ⟨rfl, hb7⟩
 replace hCS := hCS.below hb7;obtain ⟨sf, hsf⟩ : ∃ m, numF x 5 = m := ⟨_, rfl⟩
 rw [hsf];have HSF := Hh hsf;clear hb7 hsf;go_wp2_with (with_reducible refine stop_store ?_)
 refine wpList_store_cell rfl _ _ _ rfl rfl (w.heap.size + 2) 3 (.int .i64 tu) rfl rfl _ _ hCS.var (by kernel_rfl) (by simp) rfl fun wt hBt hgt => ?_
 replace hCS := hCS.set (cc' := (clC s1 s2 0 tu 0 0 0 none 0 0 none 0 0 none 0 0 none 0 0)) hBt hgt;clear hBt hgt;go_wp2_with (with_reducible refine stop_store ?_)
 refine wpList_store_cell rfl _ _ _ rfl rfl (w.heap.size + 2) 2 (.int .i64 sf) rfl rfl _ _ hCS.var (by kernel_rfl) (by simp) rfl fun wt' hBt hgt => ?_
 replace hCS := hCS.set (cc' := (clC s1 s2 sf tu 0 0 0 none 0 0 none 0 0 none 0 0 none 0 0)) hBt hgt;clear hBt hgt;obtain ⟨m8, hm8⟩ : ∃ m, sF x 8 = m := ⟨_, rfl⟩
 have HM8 := Hh hm8;obtain ⟨o8, ho8⟩ : ∃ o, findP x (intP 8) = o := ⟨_, rfl⟩
 have HO8 := Hh (And.intro ho8 (show o8.getD zeroItm = m8 by rw [← hm8, sF, ho8]));clear hm8 ho8;go_upto_region 6 with fail
 go_cut [7] (fun s7 wx => ∃ (N : Nat) (za : Option Addr) (zb : Nat) (zc : Option Addr) (zd : Nat) (H9 : Snap), s7 = .pointer (some ⟨N, 0, none⟩) ∧ CS w H #[.int .i64 x.kind, .int .u64 x.n, .slice ba x.bytes.length bc, .slice ia x.items.length ic] (clC s1 s2 sf tu 0 0 0 none 0 0 none 0 0 none 0 0 none 0 0) wx H9 ∧ Blk wx N 75 #[.int .i64 m8.kind, .int .u64 m8.n, .slice za m8.bytes.length zb, .slice zc m8.items.length zd] ∧ IsItem H9 za zb zc zd m8)
 case first =>
  replace hCS := hCS.drew
  refine wp_region_ways 9 (fun wx => wx.cell? ⟨w.heap.size, 0, none⟩ = some (.int .i64 x.kind) ∧ wx.cell? ⟨w.heap.size, 1, none⟩ = some (.int .u64 x.n) ∧ wx.cell? ⟨w.heap.size, 2, none⟩ = some (.slice ba x.bytes.length bc) ∧ wx.cell? ⟨w.heap.size, 3, none⟩ = some (.slice ia x.items.length ic)) (by kernel_rfl) (⟨hCS.box.cell 0 rfl, hCS.box.cell 1 rfl, hCS.box.cell 2 rfl, hCS.box.cell 3 rfl⟩) (fun hHeld => ?_)
  repeat' first
   | (
    revert k1
    intro hK
    go_simp
    refine (cbor_Int 8 (by omega) (by omega) _ hCS.grows.holds).mono ?_
    rintro e w8 ⟨v1, rfl, xa1, xb1, xc1, xd1, H1, rfl, hG1, hI1⟩
    try replace hN := hN.grow hG1
    replace hCS := hCS.grow hG1
    refine Ko hK ?_ fun hHeld => ?_
    ·exact ⟨hCS.box.cell 0 rfl, hCS.box.cell 1 rfl, hCS.box.cell 2 rfl, hCS.box.cell 3 rfl⟩
    clear hK K)
   | (
    revert k2
    intro hK
    go_simp
    refine (cbor_Find (HT.out.mono hCS.grows.le) (HI.out.mono hCS.grows.le).arg hI1.arg _ hCS.grows.holds).mono ?_
    rw [HO8.out.1];rintro e w9 ⟨v4, rfl, za, zb, zc, zd, H4, rfl, hG4, hI4⟩
    obtain ⟨q8, hq8⟩ : ∃ q, o8.isSome = q := ⟨_, rfl⟩
    rw [HO8.out.2] at hI4 ⊢;rw [hq8];clear hq8
    try replace hN := hN.grow hG4
    replace hCS := hCS.grow hG4
    refine Ko hK ?_ fun hHeld => ?_
    ·exact ⟨hCS.box.cell 0 rfl, hCS.box.cell 1 rfl, hCS.box.cell 2 rfl, hCS.box.cell 3 rfl⟩
    clear hK K)
   | (
    revert k6
    intro hK
    go_simp
    have hN := hCS.newI;replace hCS := hCS.alloc (.cells zeroC 75)
    try simp only [drew_heap, size_alloc] at hN
    refine Ko hK ?_ fun hHeld => ?_
    ·exact ⟨hCS.box.cell 0 rfl, hCS.box.cell 1 rfl, hCS.box.cell 2 rfl, hCS.box.cell 3 rfl⟩
    clear hK K)
   | (
    revert k7
    intro hK
    rw [if_pos (by rfl)]
    refine wp_store_item _ _ _ rfl _ _ rfl rfl _ _ hN.blk size_item rfl (one4 _ _ _ _ rfl rfl rfl rfl) fun w10 hD10 hg10 => ?_
    have hCS := hCS.put hN hg10
    refine Ko hK ?_ fun hHeld => ?_
    ·exact ⟨hCS.box.cell 0 rfl, hCS.box.cell 1 rfl, hCS.box.cell 2 rfl, hCS.box.cell 3 rfl⟩
    clear hK K)
   | simp only [Act.put, zz1, zz2, zz3, zz4, zz5, zz6]
   | refine TkS 0 rfl hHeld ?_ (hs:=by decide +kernel)
   | refine TkS 3 rfl hHeld ?_ (hs:=by decide +kernel)
   | refine TkS 4 rfl hHeld ?_ (hs:=by decide +kernel)
   | refine TkS 5 rfl hHeld ?_ (hs:=by decide +kernel)
   | refine TkS 8 rfl hHeld ?_ (hs:=by decide +kernel)
   | refine Ways.two (i := 1) (j := 6) rfl rfl (by decide +kernel) (fun K k1 => ?_) (fun K k6 => ?_)
   | refine Ways.two (i := 2) (j := 6) rfl rfl (by decide +kernel) (fun K k2 => ?_) (fun K k6 => ?_)
   | refine To 6 rfl (fun K k6 => ?_) (by decide +kernel)
   | refine To 7 rfl (fun K k7 => ?_) (by decide +kernel)
   | refine To 2 rfl (fun K k2 => ?_) (by decide +kernel)
   | refine To 1 rfl (fun K k1 => ?_) (by decide +kernel)
   | (
    refine Wd ?_ (by decide +kernel)
    clear hHeld;go_wp2_with fail
    go_meet
    exact ⟨_, za, zb, zc, zd, H4, rfl, hCS, hD10, hI4⟩)
 case rest =>
 clear hCS;obtain ⟨N7, za, zb, zc, zd, H9, rfl, hCS, hN7, hI9⟩ := hcut;obtain ⟨o, ho⟩ : ∃ o, findP m8 (intP 1) = o := ⟨_, rfl⟩
 have HO := Hh ho;have HOX : Hid (findP (sF x 8) (intP 1) = o) := by rw [Hid, HM8.out, ho]
 obtain ⟨v, hv⟩ : ∃ v, o.getD zeroItm = v := ⟨_, rfl⟩
 have HVV := Hh hv;obtain ⟨q, hq⟩ : ∃ q, o.isSome = q := ⟨_, rfl⟩
 have HQ := Hh hq;clear ho hv hq;go_upto_region 7 with fail
 go_cut [9, 10] (fun s9 s10 wx => ∃ (N : Nat) (ya : Option Addr) (yb : Nat) (yc : Option Addr) (yd : Nat) (Hy : Snap), s9 = .pointer (some ⟨N, 0, none⟩) ∧ s10 = .bool q ∧ CS w H #[.int .i64 x.kind, .int .u64 x.n, .slice ba x.bytes.length bc, .slice ia x.items.length ic] (clC s1 s2 sf tu 0 0 0 none 0 0 none 0 0 none 0 0 none 0 0) wx Hy ∧ Blk wx N 75 #[.int .i64 v.kind, .int .u64 v.n, .slice ya v.bytes.length yb, .slice yc v.items.length yd] ∧ IsItem Hy ya yb yc yd v)
 case first =>
  replace hCS := hCS.drew;replace hN7 := hN7.below (Below.refl _ _).drew
  refine wp_region_ways 9 (fun wx => wx.cell? ⟨N7, 0, none⟩ = some (.int .i64 m8.kind) ∧ wx.cell? ⟨N7, 1, none⟩ = some (.int .u64 m8.n) ∧ wx.cell? ⟨N7, 2, none⟩ = some (.slice za m8.bytes.length zb) ∧ wx.cell? ⟨N7, 3, none⟩ = some (.slice zc m8.items.length zd)) (by kernel_rfl) (⟨hN7.cell 0 rfl, hN7.cell 1 rfl, hN7.cell 2 rfl, hN7.cell 3 rfl⟩) (fun hHeld => ?_)
  repeat' first
   | (
    revert k1
    intro hK
    go_simp
    refine (cbor_Int 1 (by omega) (by omega) _ hCS.grows.holds).mono ?_
    rintro e w8 ⟨v1, rfl, xa1, xb1, xc1, xd1, H1, rfl, hG1, hI1⟩
    try replace hN := hN.grow hG1
    replace hCS := hCS.grow hG1;replace hN7 := hN7.below hG1.below;have hI9 := hI9.mono hG1.le
    refine Ko hK ?_ fun hHeld => ?_
    ·exact ⟨hN7.cell 0 rfl, hN7.cell 1 rfl, hN7.cell 2 rfl, hN7.cell 3 rfl⟩
    clear hK K)
   | (
    revert k2
    intro hK
    go_simp
    refine (cbor_Find (HT.out.mono hCS.grows.le) hI9.arg hI1.arg _ hCS.grows.holds).mono ?_
    rw [HO.out];rintro e w9 ⟨v4, rfl, ya, yb, yc, yd, H4, rfl, hG4, hI4⟩
    rw [HVV.out] at hI4 ⊢;rw [HQ.out]
    try replace hN := hN.grow hG4
    replace hCS := hCS.grow hG4;replace hN7 := hN7.below hG4.below
    refine Ko hK ?_ fun hHeld => ?_
    ·exact ⟨hN7.cell 0 rfl, hN7.cell 1 rfl, hN7.cell 2 rfl, hN7.cell 3 rfl⟩
    clear hK K)
   | (
    revert k6
    intro hK
    go_simp
    have hN := hCS.newI;have hlt7 := hN7.lt;replace hCS := hCS.alloc (.cells zeroC 75);replace hN7 := hN7.alloc (.cells zeroC 75)
    try simp only [drew_heap, size_alloc] at hN
    try simp only [drew_heap, size_alloc] at hlt7
    refine Ko hK ?_ fun hHeld => ?_
    ·exact ⟨hN7.cell 0 rfl, hN7.cell 1 rfl, hN7.cell 2 rfl, hN7.cell 3 rfl⟩
    clear hK K)
   | (
    revert k7
    intro hK
    rw [if_pos (by rfl)]
    refine wp_store_item _ _ _ rfl _ _ rfl rfl _ _ hN.blk size_item rfl (one4 _ _ _ _ rfl rfl rfl rfl) fun w10 hD10 hg10 => ?_
    have hCS := hCS.put hN hg10;have hN7 := hN7.grown hg10 (fun e => by injection e with e; omega)
    refine Ko hK ?_ fun hHeld => ?_
    ·exact ⟨hN7.cell 0 rfl, hN7.cell 1 rfl, hN7.cell 2 rfl, hN7.cell 3 rfl⟩
    clear hK K)
   | simp only [Act.put, zz1, zz2, zz3, zz4, zz5, zz6]
   | refine TkS 0 rfl hHeld ?_ (hs:=by decide +kernel)
   | refine TkS 3 rfl hHeld ?_ (hs:=by decide +kernel)
   | refine TkS 4 rfl hHeld ?_ (hs:=by decide +kernel)
   | refine TkS 5 rfl hHeld ?_ (hs:=by decide +kernel)
   | refine TkS 8 rfl hHeld ?_ (hs:=by decide +kernel)
   | refine Ways.two (i := 1) (j := 6) rfl rfl (by decide +kernel) (fun K k1 => ?_) (fun K k6 => ?_)
   | refine Ways.two (i := 2) (j := 6) rfl rfl (by decide +kernel) (fun K k2 => ?_) (fun K k6 => ?_)
   | refine To 6 rfl (fun K k6 => ?_) (by decide +kernel)
   | refine To 7 rfl (fun K k7 => ?_) (by decide +kernel)
   | refine To 2 rfl (fun K k2 => ?_) (by decide +kernel)
   | refine To 1 rfl (fun K k1 => ?_) (by decide +kernel)
   | (
    refine Wd ?_ (by decide +kernel)
    clear hHeld;go_wp2_with fail
    go_meet
    exact ⟨_, ya, yb, yc, yd, H4, rfl, rfl, hCS, hD10, hI4⟩)
 case rest =>
 clear hCS hN7 hI9;obtain ⟨N9, ya, yb, yc, yd, Hy, rfl, rfl, hCS, hN9, hIv⟩ := hcut;have n0 := hN9.cell 0 rfl;have n1 := hN9.cell 1 rfl;have n2 := hN9.cell 2 rfl;have n3 := hN9.cell 3 rfl;have FI := Hh (key_FromItem (HT.out.mono hCS.grows.le) hIv _ hCS.grows.holds);clear hN9 hIv HO HO8;go_wp2_with fail
 refine FI.out.mono ?_
 rintro e w12 (⟨hbad, rfl, hb12⟩ | ⟨hval, hno, rfl, hb12⟩ | ⟨q8, a8, H12, hval, hq8, rfl, hG12, hk8⟩)
 ·have E : Hid (claimsP x = none) := by
   cases ho : o with
   | none => exact progCl_fail1 (by rw [HOX.out, ho])
   | some v' =>
    have hv' : v' = v := by rw [← HVV.out, ho]; rfl
    refine progCl_fail2 (v := v') (by rw [HOX.out, ho]) ?_
    rw [hv']
    unfold keyB
    rw [hbad];rfl
  replace hCS := (hCS.below hb12).alloc (.cells zeroK 60);clear FI hbad hb12 n0 n1 n2 n3
  cases q with
  | false =>
   go_upto_region 10 with fail
   go_wp2_with (with_reducible refine stop_store ?_)
   refine wpList_store_item rfl _ _ _ rfl rfl _ _ rfl rfl _ _ hCS.res size_claims rfl (one11 _ _ _ _ _ _ _ _ _ _ _ rfl rfl rfl rfl rfl rfl rfl rfl rfl rfl rfl) fun wz hRz hgz => ?_
   have hdz := hCS.grows.grownOwn hCS.hR (by omega) hgz;clear hCS hgz;go_wp2_with fail
   refine ret_row_tmp rfl rfl hRz rfl rfl size_claims rfl ?_
   exact .inl ⟨E.out, rfl, hdz.below⟩
  | true =>
   go_upto_region 10 with fail
   go_wp2_with (with_reducible refine stop_store ?_)
   refine wpList_store_item rfl _ _ _ rfl rfl _ _ rfl rfl _ _ hCS.res size_claims rfl (one11 _ _ _ _ _ _ _ _ _ _ _ rfl rfl rfl rfl rfl rfl rfl rfl rfl rfl rfl) fun wz hRz hgz => ?_
   have hdz := hCS.grows.grownOwn hCS.hR (by omega) hgz;clear hCS hgz;go_wp2_with fail
   refine ret_row_tmp rfl rfl hRz rfl rfl size_claims rfl ?_
   exact .inl ⟨E.out, rfl, hdz.below⟩
 ·have E : Hid (claimsP x = none) := by
   cases ho : o with
   | none => exact progCl_fail1 (by rw [HOX.out, ho])
   | some v' =>
    have hv' : v' = v := by rw [← HVV.out, ho]; rfl
    refine progCl_fail2 (v := v') (by rw [HOX.out, ho]) ?_
    rw [hv']
    cases hk : keyB v with
    | false => rfl
    | true => exact absurd ((keyB_iff v).1 hk).2 hno
  replace hCS := (hCS.below hb12).alloc (.cells zeroK 60);clear FI hval hno hb12 n0 n1 n2 n3
  cases q with
  | false =>
   go_upto_region 10 with fail
   go_wp2_with (with_reducible refine stop_store ?_)
   refine wpList_store_item rfl _ _ _ rfl rfl _ _ rfl rfl _ _ hCS.res size_claims rfl (one11 _ _ _ _ _ _ _ _ _ _ _ rfl rfl rfl rfl rfl rfl rfl rfl rfl rfl rfl) fun wz hRz hgz => ?_
   have hdz := hCS.grows.grownOwn hCS.hR (by omega) hgz;clear hCS hgz;go_wp2_with fail
   refine ret_row_tmp rfl rfl hRz rfl rfl size_claims rfl ?_
   exact .inl ⟨E.out, rfl, hdz.below⟩
  | true =>
   go_upto_region 10 with fail
   go_wp2_with (with_reducible refine stop_store ?_)
   refine wpList_store_item rfl _ _ _ rfl rfl _ _ rfl rfl _ _ hCS.res size_claims rfl (one11 _ _ _ _ _ _ _ _ _ _ _ rfl rfl rfl rfl rfl rfl rfl rfl rfl rfl rfl) fun wz hRz hgz => ?_
   have hdz := hCS.grows.grownOwn hCS.hR (by omega) hgz;clear hCS hgz;go_wp2_with fail
   refine ret_row_tmp rfl rfl hRz rfl rfl size_claims rfl ?_
   exact .inl ⟨E.out, rfl, hdz.below⟩
 ·have HKB : Hid (keyB v = true) := (keyB_iff v).2 ⟨hval, q8, hq8⟩;have HKO := Hh (keyOf_is hval hq8);have hK := Blk.new w12 60 (keyQ q8 a8);replace hCS := (hCS.grow hG12).alloc (.cells (keyQ q8 a8) 60);have HKA := Hh hk8;clear FI hval hq8 hG12 hk8 n0 n1 n2 n3
  cases q with
  | false =>
   have E : Hid (claimsP x = none) := by
    cases ho : o with
    | none => exact progCl_fail1 (by rw [HOX.out, ho])
    | some v' => have h := HQ.out; rw [ho] at h; cases h
   clear hK;go_upto_region 10 with fail
   go_wp2_with (with_reducible refine stop_store ?_)
   refine wpList_store_item rfl _ _ _ rfl rfl _ _ rfl rfl _ _ hCS.res size_claims rfl (one11 _ _ _ _ _ _ _ _ _ _ _ rfl rfl rfl rfl rfl rfl rfl rfl rfl rfl rfl) fun wz hRz hgz => ?_
   have hdz := hCS.grows.grownOwn hCS.hR (by omega) hgz;clear hCS hgz;go_wp2_with fail
   refine ret_row_tmp rfl rfl hRz rfl rfl size_claims rfl ?_
   exact .inl ⟨E.out, rfl, hdz.below⟩
  | true =>
  have HOS : Hid (findP (sF x 8) (intP 1) = some v) := by
   rw [Hid, HOX.out]
   cases ho : o with
   | none => have h := HQ.out; rw [ho] at h; cases h
   | some v' => have h := HVV.out; rw [ho] at h; rw [← h]; rfl
  have k0 := hK.cell 0 rfl;have k1 := hK.cell 1 rfl;have k2 := hK.cell 2 rfl;have k3 := hK.cell 3 rfl;have k4 := hK.cell 4 rfl;have k5 := hK.cell 5 rfl;have k6 := hK.cell 6 rfl;clear hK HOX HQ HVV;go_upto_region 11 with fail
  go_wp2_with (with_reducible refine stop_store ?_)
  refine wpList_store_blk rfl _ _ _ rfl rfl (w.heap.size + 2) 4 (keyQ q8 a8) rfl rfl _ _ hCS.var size_keyc (by simp) (one7 _ _ _ _ _ _ _ rfl rfl rfl rfl rfl rfl rfl) fun wt hBt hgt => ?_
  obtain ⟨c, hc⟩ : ∃ c : Cl, (⟨s1, s2, sf, tu, q8⟩ : Cl) = c := ⟨_, rfl⟩
  replace hCS := hCS.set (cc' := clQ ⟨s1, s2, sf, tu, q8⟩ a8) hBt hgt;rw [hc] at hCS;have HRC : Hid (readC x v = c) := by rw [Hid, readC, HS1.out, HS2.out, HSF.out, HTU.out, HKO.out, hc]
  have HCA : Hid (ClA H12 c a8) := by
   rw [← hc];have l1 := sF_bytes (x := x) 1;have l2 := sF_bytes (x := x) 2;have e1 := HS1.out;have e2 := HS2.out;have e3 := HSF.out;have e4 := HTU.out;subst e1 e2 e3 e4
   exact ⟨by show (sF x 1).bytes.length ≤ _; omega, by show (sF x 2).bytes.length ≤ _; omega, by show _ ≤ numF x 5 ∧ numF x 5 ≤ _; unfold numF; omega, by show _ ≤ numF x 4 ∧ numF x 4 ≤ _; unfold numF; omega, HKA.out⟩
  have HCG := Hh hCS.grows.le;clear hBt hgt hc HKA HKO HS1 HS2 HSF HTU k0 k1 k2 k3 k4 k5 k6;have VC : Hid (∀ W, Holds W H12 → Calls Tryz.prog 50 #[.agg (clQ c a8)] W fun e w' => e = .returned (.bool (validC c)) ∧ Below W.heap.size W w') := fun W hW => cred_Valid (HT.out.mono HCG.out) HCA.out W hW
  go_upto_region 12 with fail
  cases hvc : validC c with
  | false =>
   have E := Hh (progCl_fail3 HOS.out HKB.out (.inl (by rw [HRC.out]; exact hvc)));rw [hvc] at VC;clear hvc;replace hCS := hCS.drew
   refine wp_region_ways 10 (fun wx => wx.cell? ⟨w.heap.size + 2, 0, none⟩ = some (.string c.issuer) ∧ wx.cell? ⟨w.heap.size + 2, 1, none⟩ = some (.string c.subject) ∧ wx.cell? ⟨w.heap.size + 2, 2, none⟩ = some (.int .i64 c.since) ∧ wx.cell? ⟨w.heap.size + 2, 3, none⟩ = some (.int .i64 c.till) ∧ wx.cell? ⟨w.heap.size + 2, 4, none⟩ = some (.int .i64 c.key.kty) ∧ wx.cell? ⟨w.heap.size + 2, 5, none⟩ = some (.int .i64 c.key.crv) ∧ wx.cell? ⟨w.heap.size + 2, 6, none⟩ = some (.int .i64 c.key.alg) ∧ wx.cell? ⟨w.heap.size + 2, 7, none⟩ = some (.slice a8.ia c.key.kid.length a8.ic) ∧ wx.cell? ⟨w.heap.size + 2, 8, none⟩ = some (.slice a8.xa c.key.x.length a8.xc) ∧ wx.cell? ⟨w.heap.size + 2, 9, none⟩ = some (.slice a8.da c.key.d.length a8.dc) ∧ wx.cell? ⟨w.heap.size + 2, 10, none⟩ = some (.slice a8.ka c.key.k.length a8.kc)) (by kernel_rfl) (⟨hCS.var.cell 0 rfl, hCS.var.cell 1 rfl, hCS.var.cell 2 rfl, hCS.var.cell 3 rfl, hCS.var.cell 4 rfl, hCS.var.cell 5 rfl, hCS.var.cell 6 rfl, hCS.var.cell 7 rfl, hCS.var.cell 8 rfl, hCS.var.cell 9 rfl, hCS.var.cell 10 rfl⟩) (fun hHeld => ?_)
   refine TkS 0 rfl hHeld ?_
   refine To 1 rfl fun K hK => ?_
   go_simp
   refine (VC.out _ hCS.grows.holds).mono ?_
   rintro e w13 ⟨rfl, hb13⟩
   have hCS := hCS.below hb13
   refine Ko hK ?_ fun hHeld => ?_
   ·exact ⟨hCS.var.cell 0 rfl, hCS.var.cell 1 rfl, hCS.var.cell 2 rfl, hCS.var.cell 3 rfl, hCS.var.cell 4 rfl, hCS.var.cell 5 rfl, hCS.var.cell 6 rfl, hCS.var.cell 7 rfl, hCS.var.cell 8 rfl, hCS.var.cell 9 rfl, hCS.var.cell 10 rfl⟩
   clear hK K
   refine TkS 2 rfl hHeld ?_
   refine TkS 3 rfl hHeld ?_
   refine TkSU 4 rfl hHeld ?_
   refine TkSU 5 rfl hHeld ?_
   refine TkSU 6 rfl hHeld ?_
   refine TkSU 7 rfl hHeld ?_
   refine TkSU 8 rfl hHeld ?_
   refine TkS 9 rfl hHeld ?_
   refine Wd ?_
   clear hHeld;go_upto_region 13 with fail
   go_wp2_with (with_reducible refine stop_store ?_)
   refine wpList_store_item rfl _ _ _ rfl rfl _ _ rfl rfl _ _ hCS.res size_claims rfl (one11 _ _ _ _ _ _ _ _ _ _ _ rfl rfl rfl rfl rfl rfl rfl rfl rfl rfl rfl) fun wz hRz hgz => ?_
   have hdz := hCS.grows.grownOwn hCS.hR (by omega) hgz;clear hCS hgz;go_wp2_with fail
   refine ret_row_tmp rfl rfl hRz rfl rfl size_claims rfl ?_
   exact .inl ⟨E.out, rfl, hdz.below⟩
  | true =>
   have HVC := Hh hvc;rw [hvc] at VC;clear hvc;obtain ⟨k, hk⟩ : ∃ k, Lib.compareBytes (encB x) (encB (itmCl c)) = k := ⟨_, rfl⟩
   have HKC := Hh hk;obtain ⟨y, hy⟩ : ∃ y, itmCl c = y := ⟨_, rfl⟩
   have HY := Hh hy;have IT : Hid (∀ W, Holds W H12 → Calls Tryz.prog 52 #[.agg (clQ c a8)] W fun e w' => ∃ v, e = .returned v ∧ Gives W H12 y v w') := fun W hW => by rw [← hy]; exact cred_item (HT.out.mono HCG.out) HCA.out HVC.out W hW
   have CM : Hid (∀ W Hw ja jb jc jd, H12.le Hw → Holds W Hw → IsItem Hw ja jb jc jd y → Calls Tryz.prog 51 #[itemV x ba bc ia ic, itemV y ja jb jc jd] W fun e w' => e = .returned (.int .i64 k) ∧ Below W.heap.size W w') := fun W Hw ja jb jc jd hl hW hi => by
    have h := cbor_Cmp ((HT.out.mono HCG.out).mono hl) ((HI.out.mono HCG.out).mono hl) hi HV.out (by rw [← hy]; exact validP_itmCl HVC.out) W hW;rw [← hy, hk] at h;rw [← hy]
    exact h
   clear hk hy;replace hCS := hCS.drew
   refine wp_region_ways 10 (fun wx => (wx.cell? ⟨w.heap.size, 0, none⟩ = some (.int .i64 x.kind) ∧ wx.cell? ⟨w.heap.size, 1, none⟩ = some (.int .u64 x.n) ∧ wx.cell? ⟨w.heap.size, 2, none⟩ = some (.slice ba x.bytes.length bc) ∧ wx.cell? ⟨w.heap.size, 3, none⟩ = some (.slice ia x.items.length ic)) ∧ wx.cell? ⟨w.heap.size + 2, 0, none⟩ = some (.string c.issuer) ∧ wx.cell? ⟨w.heap.size + 2, 1, none⟩ = some (.string c.subject) ∧ wx.cell? ⟨w.heap.size + 2, 2, none⟩ = some (.int .i64 c.since) ∧ wx.cell? ⟨w.heap.size + 2, 3, none⟩ = some (.int .i64 c.till) ∧ wx.cell? ⟨w.heap.size + 2, 4, none⟩ = some (.int .i64 c.key.kty) ∧ wx.cell? ⟨w.heap.size + 2, 5, none⟩ = some (.int .i64 c.key.crv) ∧ wx.cell? ⟨w.heap.size + 2, 6, none⟩ = some (.int .i64 c.key.alg) ∧ wx.cell? ⟨w.heap.size + 2, 7, none⟩ = some (.slice a8.ia c.key.kid.length a8.ic) ∧ wx.cell? ⟨w.heap.size + 2, 8, none⟩ = some (.slice a8.xa c.key.x.length a8.xc) ∧ wx.cell? ⟨w.heap.size + 2, 9, none⟩ = some (.slice a8.da c.key.d.length a8.dc) ∧ wx.cell? ⟨w.heap.size + 2, 10, none⟩ = some (.slice a8.ka c.key.k.length a8.kc)) (by kernel_rfl) (⟨⟨hCS.box.cell 0 rfl, hCS.box.cell 1 rfl, hCS.box.cell 2 rfl, hCS.box.cell 3 rfl⟩, hCS.var.cell 0 rfl, hCS.var.cell 1 rfl, hCS.var.cell 2 rfl, hCS.var.cell 3 rfl, hCS.var.cell 4 rfl, hCS.var.cell 5 rfl, hCS.var.cell 6 rfl, hCS.var.cell 7 rfl, hCS.var.cell 8 rfl, hCS.var.cell 9 rfl, hCS.var.cell 10 rfl⟩) (fun hHeld => ?_)
   refine TkS 0 rfl hHeld ?_
   refine To 1 rfl fun K hK => ?_
   go_simp
   refine (VC.out _ hCS.grows.holds).mono ?_
   rintro e w13 ⟨rfl, hb13⟩
   have hCS := hCS.below hb13
   refine Ko hK ?_ fun hHeld => ?_
   ·exact ⟨⟨hCS.box.cell 0 rfl, hCS.box.cell 1 rfl, hCS.box.cell 2 rfl, hCS.box.cell 3 rfl⟩, hCS.var.cell 0 rfl, hCS.var.cell 1 rfl, hCS.var.cell 2 rfl, hCS.var.cell 3 rfl, hCS.var.cell 4 rfl, hCS.var.cell 5 rfl, hCS.var.cell 6 rfl, hCS.var.cell 7 rfl, hCS.var.cell 8 rfl, hCS.var.cell 9 rfl, hCS.var.cell 10 rfl⟩
   clear hK K
   refine TkS 2 rfl hHeld ?_
   refine TkS 3 rfl hHeld ?_
   refine TkSG 4 rfl hHeld ?_
   refine TkSG 5 rfl hHeld ?_
   refine To 6 rfl fun K hK => ?_
   go_simp
   refine (IT.out _ hCS.grows.holds).mono ?_
   rintro e w14 ⟨v14, rfl, ja, jb, jc, jd, H14, rfl, hG14, hI14⟩
   have hCS := hCS.grow hG14
   refine Ko hK ?_ fun hHeld => ?_
   ·exact ⟨⟨hCS.box.cell 0 rfl, hCS.box.cell 1 rfl, hCS.box.cell 2 rfl, hCS.box.cell 3 rfl⟩, hCS.var.cell 0 rfl, hCS.var.cell 1 rfl, hCS.var.cell 2 rfl, hCS.var.cell 3 rfl, hCS.var.cell 4 rfl, hCS.var.cell 5 rfl, hCS.var.cell 6 rfl, hCS.var.cell 7 rfl, hCS.var.cell 8 rfl, hCS.var.cell 9 rfl, hCS.var.cell 10 rfl⟩
   clear hK K
   refine To 7 rfl fun K hK => ?_
   go_simp
   refine (CM.out _ _ _ _ _ _ hG14.le hCS.grows.holds hI14).mono ?_
   rintro e w15 ⟨rfl, hb15⟩
   have hCS := hCS.below hb15
   refine Ko hK ?_ fun hHeld => ?_
   ·exact ⟨⟨hCS.box.cell 0 rfl, hCS.box.cell 1 rfl, hCS.box.cell 2 rfl, hCS.box.cell 3 rfl⟩, hCS.var.cell 0 rfl, hCS.var.cell 1 rfl, hCS.var.cell 2 rfl, hCS.var.cell 3 rfl, hCS.var.cell 4 rfl, hCS.var.cell 5 rfl, hCS.var.cell 6 rfl, hCS.var.cell 7 rfl, hCS.var.cell 8 rfl, hCS.var.cell 9 rfl, hCS.var.cell 10 rfl⟩
   clear hK K
   refine TkSG 8 rfl hHeld ?_
   refine TkS 9 rfl hHeld ?_
   refine Wd ?_
   clear hHeld;have NX := HI.out.nums;have NY := hI14.nums
   by_cases hk0 : k = 0
   case neg =>
    have kb : (k != 0) = true := by rw [bne_iff_ne]; exact hk0
    have kf := eq_false hk0;have E := Hh (progCl_fail3 HOS.out HKB.out (.inr (by rw [HRC.out]; intro he; rw [← HKC.out, he, cmp_refl] at hk0; exact hk0 rfl)));clear hk0 NX NY hI14 hG14;go_upto_region 13 with fail
    go_wp2_with (with_reducible refine stop_store ?_)
    refine wpList_store_item rfl _ _ _ rfl rfl _ _ rfl rfl _ _ hCS.res size_claims rfl (one11 _ _ _ _ _ _ _ _ _ _ _ rfl rfl rfl rfl rfl rfl rfl rfl rfl rfl rfl) fun wz hRz hgz => ?_
    have hdz := hCS.grows.grownOwn hCS.hR (by omega) hgz;clear hCS hgz;go_wp2_with fail
    refine ret_row_tmp rfl rfl hRz rfl rfl size_claims rfl ?_
    exact .inl ⟨E.out, rfl, hdz.below⟩
   have E : Hid (claimsP x = some c) := by
    have he : x = itmCl c := cmp_same HV.out (validP_itmCl HVC.out) NX (by rw [HY.out]; exact NY) (by rw [HKC.out]; exact hk0);have h := progCl_ok HOS.out HKB.out (by rw [HRC.out]; exact HVC.out) (by rw [HRC.out]; exact he.symm);rwa [HRC.out] at h
   have HCB := Hh (HCA.out.mono hG14.le);subst hk0;clear NX NY hI14 hG14;have v0 := hCS.var.cell 0 rfl;have v1 := hCS.var.cell 1 rfl;have v2 := hCS.var.cell 2 rfl;have v3 := hCS.var.cell 3 rfl;have v4 := hCS.var.cell 4 rfl;have v5 := hCS.var.cell 5 rfl;have v6 := hCS.var.cell 6 rfl;have v7 := hCS.var.cell 7 rfl;have v8 := hCS.var.cell 8 rfl;have v9 := hCS.var.cell 9 rfl;have v10 := hCS.var.cell 10 rfl;go_upto_region 14 with fail
   go_wp2_with (with_reducible refine stop_store ?_)
   refine wpList_store_item rfl _ _ _ rfl rfl _ _ rfl rfl _ _ hCS.res size_claims rfl (one11 _ _ _ _ _ _ _ _ _ _ _ rfl rfl rfl rfl rfl rfl rfl rfl rfl rfl rfl) fun wz hRz hgz => ?_
   have hdz := hCS.grows.grownOwn hCS.hR (by omega) hgz;clear hCS hgz;go_wp2_with fail
   refine ret_row_tmp rfl rfl hRz rfl rfl size_claims rfl ?_
   exact .inr ⟨c, a8, H14, E.out, rfl, hdz, HCB.out⟩
theorem cred_Decode {H : Snap} (hTab : Tabs H) (w : World) (hH : Holds w H) {A : Option Addr} {n c : Nat} {l : List UInt8} (hn : n = l.length) (hl : IsBytes H A c l) :
  Calls Tryz.prog 29 #[.slice A n c] w (DecCOut w H l) := by
 have hR := Blk.new w 62 zeroCl;have hRn : H w.heap.size = none := hH.none_of_ge (Nat.le_refl _);have hG := (Grows.refl hH).alloc (.cells zeroCl 62);have DC := Hh (cbor_Decode hTab _ hG.holds hn hl);have HT := Hh hTab;clear hn hl hTab hH;go_enter Tryz.func29, Tryz.ntmps29
 go_wp2_with fail
 refine DC.out.mono ?_
 intro e w2 hs
 clear DC
 unfold DecodeOut at hs
 cases hd : decodeP l with
 | error q =>
  rw [hd] at hs;obtain ⟨rfl, hb2⟩ := hs;have hq0 : ((q : Int) != 0) = true := by rw [bne_iff_ne]; have := decodeP_err1 hd; omega
  have hq1 : ((q : Int) = 0) = False := eq_false (by have := decodeP_err1 hd; omega);have HD : Hid (claimsD l = .error q) := by rw [Hid, claimsD, hd]
  replace hR := (hR.below hb2).alloc zeroO;replace hG := (hG.below_ hb2).alloc zeroO;clear hd hb2;go_upto_region 3 with fail
  go_wp2_with (with_reducible refine stop_store ?_)
  refine wpList_store_item rfl _ _ _ rfl rfl _ _ rfl rfl _ _ hR size_claims rfl (one11 _ _ _ _ _ _ _ _ _ _ _ rfl rfl rfl rfl rfl rfl rfl rfl rfl rfl rfl) fun wz hRz hgz => ?_
  have hdz := hG.grownOwn hRn (Nat.le_refl _) hgz;clear hG hR hgz;go_wp2_with fail
  refine ret_row_tmp rfl rfl hRz rfl rfl size_claims rfl ?_
  exact .inl ⟨q, HD.out, rfl, hdz.below⟩
 | ok x =>
  rw [hd] at hs;obtain ⟨ja, jb, jc, jd, H2, rfl, hG2, hI2⟩ := hs;have HVX := Hh (decodeP_valid hd);have HD : Hid (∀ z, claimsP x = z → claimsD l = match z with | none => .error 4 | some c => .ok c) := by rintro z rfl; rw [claimsD, hd]; try rfl
  replace hR := (hR.below hG2.below).alloc (itemO x ja jb jc jd);have hRn2 := hG2.none hRn (by simp);replace hG := (hG.trans hG2).alloc (itemO x ja jb jc jd);have hRl := Hh hR.lt;have FR := Hh (cred_claims (HT.out.mono hG.le) HVX.out hI2 _ hG.holds);clear hd hG2 hI2;go_wp2_with fail
  refine FR.out.mono ?_
  rintro e w5 (⟨hcl, rfl, hb5⟩ | ⟨c5, a5, H5, hcl, rfl, hG5, hca⟩)
  ·have E := Hh (HD.out _ hcl);replace hR := (hR.below hb5).alloc (.cells zeroCl 62);replace hG := (hG.below_ hb5).alloc (.cells zeroCl 62);clear hcl hb5 FR HD;go_upto_region 6 with fail
   go_wp2_with (with_reducible refine stop_store ?_)
   refine wpList_store_item rfl _ _ _ rfl rfl _ _ rfl rfl _ _ hR size_claims rfl (one11 _ _ _ _ _ _ _ _ _ _ _ rfl rfl rfl rfl rfl rfl rfl rfl rfl rfl rfl) fun wz hRz hgz => ?_
   have hdz := hG.grownOwn hRn2 (Nat.le_refl _) hgz;clear hG hR hgz;go_wp2_with fail
   refine ret_row_tmp rfl rfl hRz rfl rfl size_claims rfl ?_
   exact .inl ⟨4, E.out, rfl, hdz.below⟩
  ·have E := Hh (HD.out _ hcl);have hRn5 := hG5.none hRn2 hRl.out;replace hR := (hR.below hG5.below).alloc (.cells (clQ c5 a5) 62);replace hG := (hG.trans hG5).alloc (.cells (clQ c5 a5) 62);have HCA := Hh hca;clear hcl hG5 FR HD hRn2 hca;go_upto_region 7 with fail
   go_wp2_with (with_reducible refine stop_store ?_)
   refine wpList_store_item rfl _ _ _ rfl rfl _ _ rfl rfl _ _ hR size_claims rfl (one11 _ _ _ _ _ _ _ _ _ _ _ rfl rfl rfl rfl rfl rfl rfl rfl rfl rfl rfl) fun wz hRz hgz => ?_
   have hdz := hG.grownOwn hRn5 (Nat.le_refl _) hgz;clear hG hR hgz;go_wp2_with fail
   refine ret_row_tmp rfl rfl hRz rfl rfl size_claims rfl ?_
   exact .inr ⟨c5, a5, H5, E.out, rfl, hdz, HCA.out⟩
theorem claimsD_kty {l : List UInt8} {c : Cl} (h : claimsD l = .ok c) : c.key.kty = 1 := by
 unfold claimsD at h
 cases hd : decodeP l with
 | error q => rw [hd] at h; cases h
 | ok x =>
  rw [hd] at h
  simp only at h
  cases hc : claimsP x with
  | none => rw [hc] at h; cases h
  | some c' =>
   rw [hc] at h;injection h with h
   subst h
   exact ((validC_iff _).1 (claimsP_some hc).1).2.2.2.2.2.2.2.2.2.1
theorem decC_outQ {w w' : World} {H : Snap} {l : List UInt8} {e : Ending} (h : DecCOut w H l e w') : ∃ (c : Cl) (a : KAd) (q : Int), e = .returned (.tuple #[.agg (clQ c a), .int .i64 q]) ∧ Below w.heap.size w w' ∧ credP l = (decide (q = 0) && decide (c.key.crv = 6)) ∧ (q = 0 → c.key.kty = 1) := by
 rcases h with ⟨q, hq, rfl, hb⟩ | ⟨c, a, H', hq, rfl, hG, _⟩
 ·refine ⟨nilC, ⟨none, 0, none, 0, none, 0, none, 0⟩, q, rfl, hb, ?_, fun h => absurd h (by have := claimsD_err hq; omega)⟩
  unfold credP
  rw [hq];have := claimsD_err hq;rw [decide_eq_false (by omega)];rfl
 ·refine ⟨c, a, 0, rfl, hG.below, ?_, fun _ => claimsD_kty hq⟩
  unfold credP
  rw [hq];rfl
theorem manager_sound {H : Snap} (hTab : Tabs H) {m : Mb} {a : MAd} (hm : MemA H m a) (w : World) (hH : Holds w H) :
  Calls Tryz.prog 18 #[.agg (memQ m a)] w fun e w' => e = .returned (.bool (soundP m)) ∧ Below w.heap.size w w' := by
 obtain ⟨ln, hln⟩ : ∃ n, n = m.name.size := ⟨_, rfl⟩
 obtain ⟨ls, hls⟩ : ∃ n, n = m.sender.length := ⟨_, rfl⟩
 obtain ⟨lc, hlc⟩ : ∃ n, n = m.cred.length := ⟨_, rfl⟩
 obtain ⟨lh, hlh⟩ : ∃ n, n = m.share.length := ⟨_, rfl⟩
 obtain ⟨lw, hlw⟩ : ∃ n, n = m.wrap.length := ⟨_, rfl⟩
 have hns : ((m.name.size : Nat) : Int) = (ln : Int) := by rw [hln]
 have HT := Hh hTab;have HH := Hh hH;have hB := Blk.new w 39 (memC m.name m.roles m.since a.sa ls a.sc a.ca lc a.cc a.ha lh a.hc a.wa lw a.wc);have hb := below_box w (.cells (memC m.name m.roles m.since a.sa ls a.sc a.ca lc a.cc a.ha lh a.hc a.wa lw a.wc) 39);have DC := Hh (fun wx hx => cred_Decode hTab wx hx hlc hm.cred);have VS := Hh (fun w hH => utf8_ValidString hTab w hH m.name (by have := hm.name; omega));obtain ⟨cp, hcp⟩ : ∃ b, b = credP m.cred := ⟨_, rfl⟩
 obtain ⟨vb, hvb⟩ : ∃ b, b = Lib.validD m.name.data.toList := ⟨_, rfl⟩
 have ES : Hid (soundP m = (decide (1 ≤ ln) && decide (ln ≤ 32) && vb && decide (1 ≤ m.roles) && decide (m.roles ≤ 7) && cp && decide (lh = 32))) := by rw [Hid, soundP, ← hln, ← hcp, ← hvb, ← hlh]
 rw [← hvb] at VS;have HCP := Hh hcp;show Calls Tryz.prog 18 #[.agg (memC m.name m.roles m.since a.sa m.sender.length a.sc a.ca m.cred.length a.cc a.ha m.share.length a.hc a.wa m.wrap.length a.wc)] w _
 rw [← hls, ← hlc, ← hlh, ← hlw];have n0 := hB.cell 0 rfl;have n2 := hB.cell 2 rfl;have n4 := hB.cell 4 rfl;clear hln hls hlc hlh hlw hcp hvb hm hTab hH;go_enter Tryz.func18, Tryz.ntmps18
 by_cases h1 : (ln : Int) < 1
 ·have E : Hid (soundP m = false) := by rw [Hid, ES.out, decide_eq_false (show ¬ 1 ≤ ln by omega)]; simp
  clear hB;go_wp2_with fail
  go_ret
  exact ⟨by rw [E.out]; rfl, hb⟩
 by_cases h2 : (32 : Int) < (ln : Int)
 ·have E : Hid (soundP m = false) := by rw [Hid, ES.out, decide_eq_false (show ¬ ln ≤ 32 by omega)]; simp
  clear hB;go_wp2_with fail
  go_ret
  exact ⟨by rw [E.out]; rfl, hb⟩
 have H12 : Hid (decide (1 ≤ ln) = true ∧ decide (ln ≤ 32) = true) := ⟨decide_eq_true (by omega), decide_eq_true (by omega)⟩
 go_wp2_with fail
 refine (VS.out _ (HH.out.below hb (Nat.le_refl _))).mono ?_
 rintro e w4 ⟨rfl, hb4⟩
 replace hB := hB.below hb4;replace hb := hb.trans (hb4.mono hb.size);clear hb4 n0 n2 n4 h1 h2;have n2 := hB.cell 2 rfl;have n4 := hB.cell 4 rfl
 cases vb with
 | false =>
  have E : Hid (soundP m = false) := by rw [Hid, ES.out]; simp
  clear hB;go_wp2_with fail
  go_ret
  exact ⟨by rw [E.out]; rfl, hb⟩
 | true =>
 simp only [Bool.not_true]
 by_cases h3 : m.roles < 1
 ·have E : Hid (soundP m = false) := by rw [Hid, ES.out, decide_eq_false (show ¬ 1 ≤ m.roles by omega)]; simp
  clear hB;go_wp2_with fail
  go_ret
  exact ⟨by rw [E.out]; rfl, hb⟩
 by_cases h4 : 7 < m.roles
 ·have E : Hid (soundP m = false) := by rw [Hid, ES.out, decide_eq_false (show ¬ m.roles ≤ 7 by omega)]; simp
  clear hB;go_wp2_with fail
  go_ret
  exact ⟨by rw [E.out]; rfl, hb⟩
 by_cases h7 : (lh : Int) = 32
 case neg =>
  obtain ⟨e1, e2, e3⟩ := num_ne_facts h7;have E : Hid (soundP m = false) := by rw [Hid, ES.out, decide_eq_false (show ¬ lh = 32 by omega)]; simp
  clear hB h7;go_wp2_with fail
  go_ret
  exact ⟨by rw [E.out]; rfl, hb⟩
 obtain ⟨e1, e2, e3⟩ := num_eq_facts h7;have H37 : Hid (decide (1 ≤ m.roles) = true ∧ decide (m.roles ≤ 7) = true ∧ decide (lh = 32) = true) := ⟨decide_eq_true (by omega), decide_eq_true (by omega), decide_eq_true (by omega)⟩
 clear h7;go_upto_region 3 with fail
 clear e1 e2 e3 n2 n4 h3 h4;have b3 := hB.cell 3 rfl;clear hB;go_wp2_with fail
 refine (DC.out _ (HH.out.below hb (Nat.le_refl _))).mono ?_
 intro e w5 h5
 obtain ⟨c5, a5, q, rfl, hb5, hcq, hk1⟩ := decC_outQ h5;rw [← HCP.out] at hcq;have HCQ := Hh hcq;have HK1 := Hh hk1;clear h5 hcq DC HCP hk1 b3;have hQ := Blk.new w5 62 (clQ c5 a5);replace hb := hb.trans (hb5.mono hb.size);replace hb := hb.alloc hb.size (.cells (clQ c5 a5) 62);obtain ⟨Q, hQe⟩ : ∃ Q, w5.heap.size = Q := ⟨_, rfl⟩
 obtain ⟨w3, hw3⟩ : ∃ w3, w5.alloc (.cells (clQ c5 a5) 62) = w3 := ⟨_, rfl⟩
 rw [hQe, hw3] at hQ;rw [hw3] at hb;have HW := Hh (And.intro hQe hw3);clear hQe hw3 hb5;go_upto_region 4 with fail
 try rw [HW.out.1]
 try rw [HW.out.2]
 clear HW;have v4 : w3.cell? ⟨Q, 4, none⟩ = some (.int .i64 c5.key.kty) := hQ.cell 4 rfl;have v5 : w3.cell? ⟨Q, 5, none⟩ = some (.int .i64 c5.key.crv) := hQ.cell 5 rfl;obtain ⟨crv, hcrv⟩ : ∃ z, c5.key.crv = z := ⟨_, rfl⟩
 obtain ⟨kty, hkty⟩ : ∃ z, c5.key.kty = z := ⟨_, rfl⟩
 simp only [hcrv, hkty] at v4 v5 HCQ HK1
 clear hcrv hkty hQ
 by_cases h5 : q = 0
 case neg =>
  have E : Hid (soundP m = false) := by rw [Hid, ES.out, HCQ.out, decide_eq_false h5]; simp
  obtain ⟨e1, e2, e3⟩ := num_ne_facts h5;clear h5;go_wp2_with fail
  go_ret
  exact ⟨by rw [E.out]; rfl, hb⟩
 obtain ⟨e1, e2, e3⟩ := num_eq_facts h5;obtain ⟨f1, f2, f3⟩ := num_eq_facts (HK1.out h5);have H5 := Hh h5;clear h5
 by_cases h6 : crv = 6
 case neg =>
  have E : Hid (soundP m = false) := by rw [Hid, ES.out, HCQ.out, decide_eq_false h6]; simp
  obtain ⟨g1, g2, g3⟩ := num_ne_facts h6;clear h6;go_wp2_with fail
  go_ret
  exact ⟨by rw [E.out]; rfl, hb⟩
 obtain ⟨g1, g2, g3⟩ := num_eq_facts h6;have E : Hid (soundP m = true) := by rw [Hid, ES.out, HCQ.out, H12.out.1, H12.out.2, H37.out.1, H37.out.2.1, H37.out.2.2, decide_eq_true H5.out, decide_eq_true h6]; rfl
 clear h6;go_wp2_with fail
 go_ret
 exact ⟨by rw [E.out]; rfl, hb⟩
theorem soundIs {H : Snap} (hTab : Tabs H) : SoundIs soundP H := fun K hl m a w hm hH => manager_sound (hTab.mono hl) hm w hH
theorem soundP_since (m : Mb) (s : List UInt8) (n : Int) : soundP { m with sender := s, since := n } = soundP m := rfl
def plC (l : List UInt8) : Cl := ⟨⟨#[]⟩, ⟨#[109]⟩, 0, 0, ⟨1, 6, 0, [], l, [], []⟩⟩
theorem cons_of {l : List UInt8} {n : Nat} (h : l.length = n + 1) : ∃ x t, l = x :: t ∧ t.length = n := by
 cases l with
 | nil => cases h
 | cons x t => exact ⟨x, t, rfl, by simpa using h⟩
theorem plC_said (l : List UInt8) (h : l.length = 32) : validC (plC l) = true ∧ decodeP (encB (itmCl (plC l))) = .ok (itmCl (plC l)) := by
 obtain ⟨b0, l1, rfl, h1⟩ := cons_of h;obtain ⟨b1, l2, rfl, h2⟩ := cons_of h1;obtain ⟨b2, l3, rfl, h3⟩ := cons_of h2;obtain ⟨b3, l4, rfl, h4⟩ := cons_of h3;obtain ⟨b4, l5, rfl, h5⟩ := cons_of h4;obtain ⟨b5, l6, rfl, h6⟩ := cons_of h5;obtain ⟨b6, l7, rfl, h7⟩ := cons_of h6;obtain ⟨b7, l8, rfl, h8⟩ := cons_of h7;obtain ⟨b8, l9, rfl, h9⟩ := cons_of h8;obtain ⟨b9, l10, rfl, h10⟩ := cons_of h9;obtain ⟨b10, l11, rfl, h11⟩ := cons_of h10;obtain ⟨b11, l12, rfl, h12⟩ := cons_of h11;obtain ⟨b12, l13, rfl, h13⟩ := cons_of h12;obtain ⟨b13, l14, rfl, h14⟩ := cons_of h13;obtain ⟨b14, l15, rfl, h15⟩ := cons_of h14;obtain ⟨b15, l16, rfl, h16⟩ := cons_of h15;obtain ⟨b16, l17, rfl, h17⟩ := cons_of h16;obtain ⟨b17, l18, rfl, h18⟩ := cons_of h17;obtain ⟨b18, l19, rfl, h19⟩ := cons_of h18;obtain ⟨b19, l20, rfl, h20⟩ := cons_of h19;obtain ⟨b20, l21, rfl, h21⟩ := cons_of h20;obtain ⟨b21, l22, rfl, h22⟩ := cons_of h21
 obtain ⟨b22, l23, rfl, h23⟩ := cons_of h22;obtain ⟨b23, l24, rfl, h24⟩ := cons_of h23;obtain ⟨b24, l25, rfl, h25⟩ := cons_of h24;obtain ⟨b25, l26, rfl, h26⟩ := cons_of h25;obtain ⟨b26, l27, rfl, h27⟩ := cons_of h26;obtain ⟨b27, l28, rfl, h28⟩ := cons_of h27;obtain ⟨b28, l29, rfl, h29⟩ := cons_of h28;obtain ⟨b29, l30, rfl, h30⟩ := cons_of h29;obtain ⟨b30, l31, rfl, h31⟩ := cons_of h30;obtain ⟨b31, l32, rfl, h32⟩ := cons_of h31;have h0 : l32 = [] := List.length_eq_zero_iff.1 h32;subst h0
 exact ⟨by kernel_rfl, by kernel_rfl⟩
theorem plC_cred {l : List UInt8} (h : l.length = 32) : credP (encB (itmCl (plC l))) = true := by
 obtain ⟨h1, h2⟩ := plC_said l h
 unfold credP claimsD
 rw [h2]
 simp only
 rw [(claimsP_iff _ _).2 ⟨h1, rfl⟩];rfl
end Go.Proofs.YtgaoknihklmakaaGreatDoor
