/- squeezed. Walks: the example of the law of t -/
import Derived.Test.YtgaoknihklmakaaGreatDoorK12
set_option linter.unusedVariables false
set_option linter.unusedSimpArgs false
set_option maxRecDepth 100000
set_option maxHeartbeats 25600000
namespace Go.Proofs.YtgaoknihklmakaaGreatDoor
open Go.RowKit
theorem law35_awake_of {sP : Mb → Bool} {H : Snap} (hS : SoundIs sP H) (hP : PlainSaid sP H) (hSd : SeedSaid) (w : World) (hH : Holds w H) :
  Calls Tryz.prog 5 #[] w fun e w' => e = .returned (.bool true) ∧ Below w.heap.size w w' := by
 obtain ⟨H1, hG1, hi1, hk1⟩ := Fresh.snapB hH (Fresh.lit w [170] #[.int .u8 170] 1 rfl (by simp) rfl);have HI1 := Hh hi1;have HS := Hh hS;have HP := Hh hP;have SD := Hh (hSd 1);obtain ⟨w1, hw1⟩ : ∃ w1, w.alloc (.cells #[.int .u8 170] 5) = w1 := ⟨_, rfl⟩
 rw [hw1] at hG1;clear hS hP hSd hi1 hk1 hH;go_enter Tryz.func5, Tryz.ntmps5
 go_wp2_with fail
 try rw [hw1]
 clear hw1
 refine (SD.out w1).mono ?_
 rintro e w2 ⟨A2, c2, l2, rfl, hl2, hf2⟩
 obtain ⟨H2, hG2, hi2, hk2⟩ := Fresh.snapB hG1.holds hf2;have HI2 := Hh hi2;have HL2 := Hh hl2;have hG := hG1.trans hG2;have CR := Hh (manager_Create (HS.out.mono hG.le) (ca := 1) (cb := c2) (x := [170]) (y := l2) (n := 1) (m := 32) rfl hl2.symm (by simp) (by omega) w2 hG.holds (Src.of_row (HI1.out.mono hG2.le).row hG.holds) (Src.of_row hi2.row hG.holds));clear hf2 hk2 hi2 hl2 hG1 hG2 SD;go_wp2_with fail
 refine CR.out.mono ?_
 rintro e w3 ⟨g, a, H3, q, rfl, hG3, hga, hcp⟩
 clear CR;have HV : Hid (ValidG sP (newG [170] l2)) := (newG_valid _ _ _).2 ⟨by simp, by simp, HL2.out⟩
 have hqg : q = 0 ∧ g = newG [170] l2 := by
  cases hcp with
  | arg h => exact absurd HV.out h
  | ok _ => exact ⟨rfl, rfl⟩
 obtain ⟨rfl, rfl⟩ := hqg
 have hq : gpQ (newG [170] l2) a = gpC a.ia 1 a.ic a.sa 32 a.sc 0 a.ma 0 a.mc := by
  show gpC a.ia 1 a.ic a.sa l2.length a.sc 0 a.ma 0 a.mc = _
  rw [HL2.out]
 have AD : Hid (∀ (K : Snap) (m : Mb) (ma : MAd) (wx : World), H.le K → H3.le K → MemA K m ma → Holds wx K → Calls Tryz.prog 11 #[.agg (gpC a.ia 1 a.ic a.sa 32 a.sc 0 a.ma 0 a.mc), .agg (memQ m ma)] wx (AdmOutP sP wx K (newG [170] l2) m)) := fun K m ma wx h1 h2 h3 h4 => by
  rw [← hq]
  exact manager_Admit (HS.out.mono h1) (hga.mono h2) h3 wx h4
 rw [hq];replace hG := hG.trans hG3;have hPb := Blk.new w3 30 (gpC a.ia 1 a.ic a.sa 32 a.sc 0 a.ma 0 a.mc);have hPn := hG.holds.none_of_ge (Nat.le_refl _);have HPf := Hh hG.below.size;replace hG := hG.alloc (.cells (gpC a.ia 1 a.ic a.sa 32 a.sc 0 a.ma 0 a.mc) 30);obtain ⟨P, hPe⟩ : ∃ P, w3.heap.size = P := ⟨_, rfl⟩
 obtain ⟨w4, hw4⟩ : ∃ w4, w3.alloc (.cells (gpC a.ia 1 a.ic a.sa 32 a.sc 0 a.ma 0 a.mc) 30) = w4 := ⟨_, rfl⟩
 rw [hPe] at hPn HPf;rw [hPe, hw4] at hPb;rw [hw4] at hG;have HW := Hh (And.intro hPe hw4);clear hPe hw4 hq hga hcp hG3;go_upto_region 2 with fail
 try rw [HW.out.1]
 try rw [HW.out.2]
 clear HW;replace hG := hG.drew;replace hPb := hPb.below (Below.refl _ _).drew;have hle := Snap.le.refl H3
 refine wp_region_waysZ 7 (fun wx => wx.cell? ⟨P, 0, none⟩ = some (.slice a.ia 1 a.ic) ∧ wx.cell? ⟨P, 1, none⟩ = some (.slice a.sa 32 a.sc) ∧ wx.cell? ⟨P, 2, none⟩ = some (.int .i64 0) ∧ wx.cell? ⟨P, 3, none⟩ = some (.slice a.ma 0 a.mc)) (by kernel_rfl) (⟨hPb.cell 0 rfl, hPb.cell 1 rfl, hPb.cell 2 rfl, hPb.cell 3 rfl⟩) (fun hHeld => ?_)
 refine Zk 0 rfl hHeld ?_
 refine Zo 1 rfl fun K hK => ?_
 go_simp
 refine (HP.out _ hG.le 1 3 _ hG.holds).mono ?_
 rintro e w5 ⟨m, ma, H5, rfl, hG5, hm5, hpl⟩
 have HM5 := Hh (And.intro hm5 hpl);have hPn := hG5.none hPn hPb.lt;have hPb := hPb.below hG5.below;have hG := hG.trans hG5;have hle := hle.trans hG5.le;clear hG5 hm5 hpl
 refine Ko hK ?_ fun hHeld => ?_
 ·exact ⟨hPb.cell 0 rfl, hPb.cell 1 rfl, hPb.cell 2 rfl, hPb.cell 3 rfl⟩
 clear hK K
 refine Zo 2 rfl fun K hK => ?_
 go_simp
 refine (AD.out _ m ma _ hG.le hle HM5.out.1 hG.holds).mono ?_
 rintro e w6 ⟨x, xa, H6, A6, c6, s6, q6, rfl, hG6, hx6, hs6, had⟩
 obtain ⟨rfl, rfl, hxn, hxm⟩ := had.first HV.out HM5.out.2;obtain ⟨sb, so, rfl, hat⟩ := hs6.at_ (by simp);have hPn := hG6.none hPn hPb.lt;have hPb := hPb.below hG6.below;have HA0 := Hh (hat 0 (by simp));have hG := hG.trans hG6;have HX := Hh (And.intro hxn hxm);clear hG6 hat had hs6 hxn hxm hx6
 refine Ko hK ?_ fun hHeld => ?_
 ·exact ⟨hPb.cell 0 rfl, hPb.cell 1 rfl, hPb.cell 2 rfl, hPb.cell 3 rfl⟩
 clear hK K
 refine Zk 3 rfl hHeld ?_
 refine Zk 4 rfl hHeld ?_
 refine ZkT 5 rfl (fun _ => hHeld) ?_
 refine ZkT 6 rfl (fun _ => hHeld) ?_
 refine Zo 7 rfl fun K hK => ?_
 refine wp_store_item _ _ _ rfl _ _ rfl rfl _ _ hPb size_group rfl (one4g _ _ _ _ rfl rfl rfl rfl) fun w7 hP7 hg7 => ?_
 have hb7 := hG.below.grown hg7 hG.below.size (by rintro q ⟨⟩; exact HPf.out);have hG7 := hG.grownOwn hPn HPf.out hg7;go_simp
 refine Kz hK ?_
 clear hK K
 refine ZkT 8 rfl (fun h => absurd h (by decide)) ?_
 refine ZkT 9 rfl (fun h => absurd h (by decide)) ?_
 refine WaysZ.done (by kernel_rfl) ?_
 clear hHeld hPb;have p2 : w7.cell? ⟨P, 2, none⟩ = some (.int .i64 x.number) := hP7.cell 2 rfl;have p3 : w7.cell? ⟨P, 3, none⟩ = some (.slice xa.ma x.members.length xa.mc) := hP7.cell 3 rfl;rw [HX.out.1] at p2;rw [HX.out.2] at p3;have x0 : w7.cell? ⟨sb, so, none⟩ = some (.int .u8 0) := hG7.holds.cell HA0.out;clear hP7 hG7 hg7;go_wp2_with fail
 go_ret
 exact ⟨rfl, hb7⟩
structure LG (W0 : World) (H : Snap) (gd P : Nat) (gc : Array Value) (w : World) (Hr : Snap) : Prop where
 grows : Grows W0 H w Hr
 deck : DeckIn w gd Hr
 var : Blk w P 30 gc
 hP : Hr P = none
 ne : P ≠ gd
 wP : W0.heap.size ≤ P
 wD : W0.heap.size ≤ gd
structure XV (W0 : World) (gd P : Nat) (xc : Array Value) (X : Nat) (Hr : Snap) (w : World) : Prop where
 blk : Blk w X 30 xc
 free : Hr X = none
 neP : X ≠ P
 neD : X ≠ gd
 wX : W0.heap.size ≤ X
section
variable {W0 w w' : World} {H Hr Hs : Snap} {gd P X : Nat} {gc gc' xc xc' : Array Value}
theorem LG.step (h : LG W0 H gd P gc w Hr) (k : Dealt w Hr w' Hs gd) : LG W0 H gd P gc w' Hs :=
 ⟨h.grows.trans_butM k.grows h.wD, k.deck, h.var.dealt k h.ne, k.hid h.hP h.var.lt, h.ne, h.wP, h.wD⟩
theorem LG.grow (h : LG W0 H gd P gc w Hr) (k : Grows w Hr w' Hs) : LG W0 H gd P gc w' Hs := h.step (h.deck.grows k)
theorem LG.below (h : LG W0 H gd P gc w Hr) (k : Below w.heap.size w w') : LG W0 H gd P gc w' Hr := h.grow (Grows.of_below h.deck.holds k)
theorem LG.alloc (h : LG W0 H gd P gc w Hr) (o : Obj) : LG W0 H gd P gc (w.alloc o) Hr := h.below (below_box w o)
theorem LG.drew (h : LG W0 H gd P gc w Hr) : LG W0 H gd P gc w.drew Hr := h.below (Below.refl _ _).drew
theorem DeckIn.kept (h : DeckIn w gd Hr) {Q : Nat} (hn : Hr Q = none) (hne : gd ≠ Q) (hg : w.grownBy w' (some Q)) : DeckIn w' gd Hr := by
 obtain ⟨A, c, l, k, hB, hl, hk⟩ := h.deck
 exact ⟨⟨A, c, l, k, hB.grown hg (by intro e; injection e with e; exact hne e.symm), hl, hk⟩, h.holds.grown hg (by rintro q ⟨⟩; exact hn), h.apart⟩
theorem LG.set (h : LG W0 H gd P gc w Hr) (hB : Blk w' P 30 gc') (hg : w.grownBy w' (some P)) : LG W0 H gd P gc' w' Hr :=
 ⟨h.grows.grownOwn h.hP h.wP hg, h.deck.kept h.hP (fun e => h.ne e.symm) hg, hB, h.hP, h.ne, h.wP, h.wD⟩
theorem LG.put (h : LG W0 H gd P gc w Hr) (x : XV W0 gd P xc X Hr w) (hg : w.grownBy w' (some X)) : LG W0 H gd P gc w' Hr :=
 ⟨h.grows.grownOwn x.free x.wX hg, h.deck.kept x.free (fun e => x.neD e.symm) hg, h.var.grown hg (by intro e; injection e with e; exact x.neP e), h.hP, h.ne, h.wP, h.wD⟩
theorem LG.newX (h : LG W0 H gd P gc w Hr) : XV W0 gd P zeroG w.heap.size Hr (w.alloc (.cells zeroG 30)) :=
 ⟨Blk.new _ _ _, h.deck.holds.none_of_ge (Nat.le_refl _), by have := h.var.lt; omega, by have := h.deck.deck.lt; omega, h.grows.below.size⟩
theorem XV.step (x : XV W0 gd P xc X Hr w) (k : Dealt w Hr w' Hs gd) : XV W0 gd P xc X Hs w' := ⟨x.blk.dealt k x.neD, k.hid x.free x.blk.lt, x.neP, x.neD, x.wX⟩
theorem XV.grow (x : XV W0 gd P xc X Hr w) (k : Grows w Hr w' Hs) : XV W0 gd P xc X Hs w' := ⟨x.blk.below k.below, k.none x.free x.blk.lt, x.neP, x.neD, x.wX⟩
theorem XV.below (x : XV W0 gd P xc X Hr w) (k : Below w.heap.size w w') : XV W0 gd P xc X Hr w' := ⟨x.blk.below k, x.free, x.neP, x.neD, x.wX⟩
theorem XV.alloc (x : XV W0 gd P xc X Hr w) (o : Obj) : XV W0 gd P xc X Hr (w.alloc o) := x.below (below_box w o)
theorem XV.set (x : XV W0 gd P xc X Hr w) (hB : Blk w' X 30 xc') : XV W0 gd P xc' X Hr w' := ⟨hB, x.free, x.neP, x.neD, x.wX⟩
end
def LEx (W0 : World) (H : Snap) (sP : Mb → Bool) (gd P : Nat) (w : World) : Prop := ∃ g a Hr, LG W0 H gd P (gpQ g a) w Hr ∧ GpA Hr g a ∧ ValidG sP g
def LX (W0 : World) (H : Snap) (sP : Mb → Bool) (gd P X : Nat) (g : Gp) (gc : Array Value) (H0 : Snap) (s9 s10 : Value) (w : World) : Prop :=
 ∃ x xa A c s q Hr, s9 = .slice A s.length c ∧ s10 = .int .i64 q ∧ LG W0 H gd P gc w Hr ∧ XV W0 gd P (gpQ x xa) X Hr w ∧ GpA Hr x xa ∧ H0.le Hr ∧ IsBytes Hr A c s ∧ s.length ≤ 1 ∧ (q = 0 → Nice sP g x s)
def BoolOut (w : World) (e : Ending) (w' : World) : Prop := e = .returned (.bool true) ∧ Below w.heap.size w w'
theorem law35_senders_of {sP : Mb → Bool} (hI : ∀ m s n, sP { m with sender := s, since := n } = sP m) {H : Snap} (hS : SoundIs sP H) (hP : PlainSaid sP H) (hSd : SeedSaid) {A : Option Addr} {c : Nat} {l : List Int} (hl : IsInts H A c l) (w : World) (hH : Holds w H) :
  Calls Tryz.prog 3 #[.slice A l.length c] w (BoolOut w) := by
 have AW : Hid (∀ (wx : World) (K : Snap), H.le K → Holds wx K → Calls Tryz.prog 5 #[] wx fun e w' => e = .returned (.bool true) ∧ Below wx.heap.size wx w') := fun wx K h1 h2 => law35_awake_of (hS.mono h1) (fun L h3 => hP L (h1.trans h3)) hSd wx h2
 have NW := Hh (fun wx => mk_New hl wx);have HS := Hh hS;have HP := Hh hP;have SD := Hh (hSd 3);have HI := Hh hI;have HH := Hh hH;obtain ⟨n, hn⟩ : ∃ n, l.length = n := ⟨_, rfl⟩
 rw [hn] at NW ⊢;clear hl hH hS hP hSd hI hn;go_enter Tryz.func3, Tryz.ntmps3
 go_wp2_with fail
 refine (mk_Few _ _ _ _).mono ?_
 rintro e w1 ⟨rfl, rfl⟩
 cases hf : decide (n ≤ 300) with
 | false =>
  go_wp2_with fail
  refine (AW.out _ _ (Snap.le.refl H) HH.out).mono ?_
  rintro e w2 ⟨rfl, hb⟩
  go_wp2_with fail
  go_ret
  exact ⟨rfl, hb⟩
 | true =>
 clear hf
 simp only [Bool.not_true]
 go_wp2_with fail
 refine (NW.out _).mono ?_
 rintro e w2 ⟨rfl, hdk, hb2⟩
 have hD : DeckIn w2 w.heap.size H := ⟨hdk, HH.out.below hb2 (Nat.le_refl _), HH.out.none_of_ge (Nat.le_refl _)⟩
 have hG := Grows.of_below HH.out hb2;obtain ⟨gd, hgd⟩ : ∃ gd, w.heap.size = gd := ⟨_, rfl⟩
 have HGD : Hid (w.heap.size ≤ gd) := by rw [Hid]; omega
 rw [hgd] at hD ⊢;clear hdk hb2 NW hgd;obtain ⟨H1, hG1, hi1, hk1⟩ := Fresh.snapB hD.holds (Fresh.lit w2 [1] #[.int .u8 1] 1 rfl (by simp) rfl);have HI1 := Hh hi1;obtain ⟨w3, hw3⟩ : ∃ w3, w2.alloc (.cells #[.int .u8 1] 5) = w3 := ⟨_, rfl⟩
 obtain ⟨L0, hL0⟩ : ∃ L0, w2.heap.size = L0 := ⟨_, rfl⟩
 rw [hw3] at hG1;rw [hL0] at HI1;replace hG := hG.trans hG1;replace hD := (hD.grows hG1).deck;have HW3 := Hh (And.intro hw3 hL0);clear hi1 hk1 hG1 hw3 hL0;go_wp2_with fail
 rw [HW3.out.1]
 try rw [HW3.out.2]
 clear HW3
 refine (SD.out w3).mono ?_
 rintro e w4 ⟨A2, c2, l2, rfl, hl2, hf2⟩
 obtain ⟨H2, hG2, hi2, hk2⟩ := Fresh.snapB hG.holds hf2;have HL2 := Hh hl2;replace hG := hG.trans hG2;replace hD := (hD.grows hG2).deck;have CR := Hh (manager_Create (HS.out.mono hG.le) (ca := 1) (cb := c2) (x := [1]) (y := l2) (n := 1) (m := 32) rfl hl2.symm (by simp) (by omega) w4 hG.holds (Src.of_row (HI1.out.mono hG2.le).row hG.holds) (Src.of_row hi2.row hG.holds));clear hf2 hk2 hi2 hl2 hG2 SD HI1;go_wp2_with fail
 refine CR.out.mono ?_
 rintro e w5 ⟨g, a, H3, q, rfl, hG3, hga, hcp⟩
 clear CR;have HV : Hid (ValidG sP (newG [1] l2)) := (newG_valid _ _ _).2 ⟨by simp, by simp, HL2.out⟩
 have hqg : q = 0 ∧ g = newG [1] l2 := by
  cases hcp with
  | arg h => exact absurd HV.out h
  | ok _ => exact ⟨rfl, rfl⟩
 obtain ⟨rfl, hg⟩ := hqg;have HVG : Hid (ValidG sP g) := by rw [hg]; exact HV.out
 replace hG := hG.trans hG3;replace hD := (hD.grows hG3).deck
 have hE : LEx w H sP gd w5.heap.size (w5.alloc (.cells (gpQ g a) 30)) :=
  ⟨g, a, H3, ⟨hG.alloc _, hD.alloc _, Blk.new _ _ _, hG.holds.none_of_ge (Nat.le_refl _), by have := hD.deck.lt; omega, hG.below.size, HGD.out⟩, hga, HVG.out⟩
 obtain ⟨P, hPe⟩ : ∃ P, w5.heap.size = P := ⟨_, rfl⟩
 obtain ⟨w6, hw6⟩ : ∃ w6, w5.alloc (.cells (gpQ g a) 30) = w6 := ⟨_, rfl⟩
 rw [hPe, hw6] at hE;have HW := Hh (And.intro hPe hw6);clear hPe hw6 hcp hG3 hg hga hG hD HV HVG HL2;go_upto_region 5 with fail
 try rw [HW.out.1]
 try rw [HW.out.2]
 clear HW;go_wp2_with fail
 go_loopw [6] (fun v6 wr => ∃ i : Nat, v6 = .int .i64 (i : Int) ∧ Hid (i ≤ 40) ∧ LEx w H sP gd P wr) (fun v6 _ => 41 - (intOf v6).toNat)
 case atStart => exact ⟨0, rfl, Nat.zero_le _, hE⟩
 case round =>
  clear hE;obtain ⟨i, rfl, HI40, g, a, Hr, hL, hga, hvg⟩ := hrel;have HVG := Hh hvg;clear hvg
  by_cases h40 : (i : Int) < 40
  case neg =>
   go_wp2_with fail
   refine (AW.out _ _ hL.grows.le hL.deck.holds).mono ?_
   rintro e w7 ⟨rfl, hb7⟩
   have hbz := hL.grows.below.trans (hb7.mono hL.grows.below.size);clear hL;go_wp2_with fail
   go_ret
   exact ⟨rfl, hbz⟩
  have H40 := Hh h40;go_wp2_with fail
  refine (deck_Left _ hL.deck).mono ?_
  rintro e w7 ⟨⟨bb, rfl⟩, hb7⟩
  replace hL := hL.below hb7;clear hb7 h40
  cases bb with
  | false =>
   go_wp2_with fail
   refine (AW.out _ _ hL.grows.le hL.deck.holds).mono ?_
   rintro e w8 ⟨rfl, hb8⟩
   have hbz := hL.grows.below.trans (hb8.mono hL.grows.below.size);clear hL;go_wp2_with fail
   go_ret
   exact ⟨rfl, hbz⟩
  | true =>
  go_wp2_with fail
  refine (deck_Next _ hL.deck 20 (by omega) (by omega)).mono ?_
  rintro e w8 ⟨nn, rfl, hnn, hd8⟩
  have HNN := Hh hnn;have hle8 := hd8.le;replace hL := hL.step hd8;replace hga := hga.mono hle8;clear hd8 hnn hle8;obtain ⟨il, hil⟩ : ∃ k, k = g.id.length := ⟨_, rfl⟩
  obtain ⟨sl, hsl⟩ : ∃ k, k = g.secret.length := ⟨_, rfl⟩
  obtain ⟨ml, hml⟩ : ∃ k, k = g.members.length := ⟨_, rfl⟩
  have hgq : gpQ g a = gpC a.ia il a.ic a.sa sl a.sc g.number a.ma ml a.mc := by rw [hil, hsl, hml]
  rw [hgq] at hL
  have AD : Hid (∀ (K : Snap) (m : Mb) (ma : MAd) (wx : World), H.le K → Hr.le K → MemA K m ma → Holds wx K → Calls Tryz.prog 11 #[.agg (gpC a.ia il a.ic a.sa sl a.sc g.number a.ma ml a.mc), .agg (memQ m ma)] wx (AdmOutP sP wx K g m)) := fun K m ma wx h1 h2 h3 h4 => by
   rw [← hgq]
   exact manager_Admit (HS.out.mono h1) (hga.mono h2) h3 wx h4
  have XD : Hid (∀ (K : Snap) (name : ByteArray) (wx : World), H.le K → Hr.le K → Holds wx K → Calls Tryz.prog 13 #[.agg (gpC a.ia il a.ic a.sa sl a.sc g.number a.ma ml a.mc), .string name] wx (ExcOutP sP wx K g name)) := fun K name wx h1 h2 h4 => by
   rw [← hgq]
   exact manager_Exclude (HS.out.mono h1) (hga.mono h2) name wx h4
  have HGA := Hh hga;have HN := Hh (And.intro hil (And.intro hsl hml));have HGQ := Hh hgq;clear hgq hil hsl hml hga;go_upto_region 11 with fail
  go_cut [8, 9, 10] (fun s8 s9 s10 wx => ∃ X, s8 = .pointer (some ⟨X, 0, none⟩) ∧ LX w H sP gd P X g (gpC a.ia il a.ic a.sa sl a.sc g.number a.ma ml a.mc) Hr s9 s10 wx)
  case first =>
   replace hL := hL.drew;have hle := Snap.le.refl Hr
   refine wp_region_ways 12 (fun wx => wx.cell? ⟨P, 0, none⟩ = some (.slice a.ia il a.ic) ∧ wx.cell? ⟨P, 1, none⟩ = some (.slice a.sa sl a.sc) ∧ wx.cell? ⟨P, 2, none⟩ = some (.int .i64 g.number) ∧ wx.cell? ⟨P, 3, none⟩ = some (.slice a.ma ml a.mc)) (by kernel_rfl) (⟨hL.var.cell 0 rfl, hL.var.cell 1 rfl, hL.var.cell 2 rfl, hL.var.cell 3 rfl⟩) (fun hHeld => ?_)
   refine TkS 0 rfl hHeld ?_
   refine TkS 1 rfl hHeld ?_
   refine Ways.two (i := 2) (j := 8) rfl rfl (by kernel_rfl) (fun K hK => ?_) (fun K hK => ?_)
   ·go_simp
    refine (HP.out _ hL.grows.le (nn : Int) 1 _ hL.deck.holds).mono ?_
    rintro e w9 ⟨m, ma, H9, rfl, hG9, hm9, hpl⟩
    have HM9 := Hh hm9;have hL := hL.grow hG9
    try have hX := hX.grow hG9
    have hle := hle.trans hG9.le;clear hG9 hm9 hpl
    refine Ko hK ?_ fun hHeld => ?_
    ·exact ⟨hL.var.cell 0 rfl, hL.var.cell 1 rfl, hL.var.cell 2 rfl, hL.var.cell 3 rfl⟩
    clear hK K
    refine Ways.two (i := 3) (j := 8) rfl rfl (by kernel_rfl) (fun K hK => ?_) (fun K hK => ?_)
    ·go_simp
     refine (AD.out _ m ma _ hL.grows.le hle HM9.out hL.deck.holds).mono ?_
     rintro e wa ⟨x, xa, Ha, Aa, ca, s, q, rfl, hGa, hxa, hsa, had⟩
     have HXA := Hh (And.intro hxa (And.intro hsa (had.nice HI.out)));have hL := hL.grow hGa
     try have hX := hX.grow hGa
     have hle := hle.trans hGa.le;clear hGa hxa hsa had
     refine Ko hK ?_ fun hHeld => ?_
     ·exact ⟨hL.var.cell 0 rfl, hL.var.cell 1 rfl, hL.var.cell 2 rfl, hL.var.cell 3 rfl⟩
     clear hK K
     refine TkS 4 rfl hHeld ?_
     refine TkS 5 rfl hHeld ?_
     refine TkS 6 rfl hHeld ?_
     refine TkS 7 rfl hHeld ?_
     refine To 8 rfl fun K hK => ?_
     go_simp
     have hX := hL.newX
     try simp only [drew_heap] at hX
     have hL := hL.alloc (.cells zeroG 30)
     refine Ko hK ?_ fun hHeld => ?_
     ·exact ⟨hL.var.cell 0 rfl, hL.var.cell 1 rfl, hL.var.cell 2 rfl, hL.var.cell 3 rfl⟩
     clear hK K
     refine To 9 rfl fun K hK => ?_
     refine wp_store_item _ _ _ rfl _ _ rfl rfl _ _ hX.blk size_group rfl (one4g _ _ _ _ rfl rfl rfl rfl) fun wb hXb hgb => ?_
     have hL := hL.put hX hgb;have hX := XV.set (w := wb) ⟨hXb, hX.free, hX.neP, hX.neD, hX.wX⟩ hXb;clear hgb hXb;go_simp
     refine Ko hK ?_ fun hHeld => ?_
     ·exact ⟨hL.var.cell 0 rfl, hL.var.cell 1 rfl, hL.var.cell 2 rfl, hL.var.cell 3 rfl⟩
     clear hK K
     refine TkS 10 rfl hHeld ?_
     refine TkS 11 rfl hHeld ?_
     refine Wd ?_
     clear hHeld;go_wp2_with fail
     go_meet
     exact ⟨_, rfl, x, xa, Aa, ca, s, q, _, rfl, rfl, hL, hX, HXA.out.1, hle, HXA.out.2.1, HXA.out.2.2.1, HXA.out.2.2.2⟩
    ·go_simp
     have hX := hL.newX
     try simp only [drew_heap] at hX
     have hL := hL.alloc (.cells zeroG 30)
     refine Ko hK ?_ fun hHeld => ?_
     ·exact ⟨hL.var.cell 0 rfl, hL.var.cell 1 rfl, hL.var.cell 2 rfl, hL.var.cell 3 rfl⟩
     clear hK K
     refine To 3 rfl fun K hK => ?_
     go_simp
     refine (AD.out _ m ma _ hL.grows.le hle HM9.out hL.deck.holds).mono ?_
     rintro e wa ⟨x, xa, Ha, Aa, ca, s, q, rfl, hGa, hxa, hsa, had⟩
     have HXA := Hh (And.intro hxa (And.intro hsa (had.nice HI.out)));have hL := hL.grow hGa
     try have hX := hX.grow hGa
     have hle := hle.trans hGa.le;clear hGa hxa hsa had
     refine Ko hK ?_ fun hHeld => ?_
     ·exact ⟨hL.var.cell 0 rfl, hL.var.cell 1 rfl, hL.var.cell 2 rfl, hL.var.cell 3 rfl⟩
     clear hK K
     refine TkS 4 rfl hHeld ?_
     refine TkS 5 rfl hHeld ?_
     refine TkS 6 rfl hHeld ?_
     refine TkS 7 rfl hHeld ?_
     refine To 9 rfl fun K hK => ?_
     refine wp_store_item _ _ _ rfl _ _ rfl rfl _ _ hX.blk size_group rfl (one4g _ _ _ _ rfl rfl rfl rfl) fun wb hXb hgb => ?_
     have hL := hL.put hX hgb;have hX := XV.set (w := wb) ⟨hXb, hX.free, hX.neP, hX.neD, hX.wX⟩ hXb;clear hgb hXb;go_simp
     refine Ko hK ?_ fun hHeld => ?_
     ·exact ⟨hL.var.cell 0 rfl, hL.var.cell 1 rfl, hL.var.cell 2 rfl, hL.var.cell 3 rfl⟩
     clear hK K
     refine TkS 10 rfl hHeld ?_
     refine TkS 11 rfl hHeld ?_
     refine Wd ?_
     clear hHeld;go_wp2_with fail
     go_meet
     exact ⟨_, rfl, x, xa, Aa, ca, s, q, _, rfl, rfl, hL, hX, HXA.out.1, hle, HXA.out.2.1, HXA.out.2.2.1, HXA.out.2.2.2⟩
   ·go_simp
    have hX := hL.newX
    try simp only [drew_heap] at hX
    have hL := hL.alloc (.cells zeroG 30)
    refine Ko hK ?_ fun hHeld => ?_
    ·exact ⟨hL.var.cell 0 rfl, hL.var.cell 1 rfl, hL.var.cell 2 rfl, hL.var.cell 3 rfl⟩
    clear hK K
    refine To 2 rfl fun K hK => ?_
    go_simp
    refine (HP.out _ hL.grows.le (nn : Int) 1 _ hL.deck.holds).mono ?_
    rintro e w9 ⟨m, ma, H9, rfl, hG9, hm9, hpl⟩
    have HM9 := Hh hm9;have hL := hL.grow hG9
    try have hX := hX.grow hG9
    have hle := hle.trans hG9.le;clear hG9 hm9 hpl
    refine Ko hK ?_ fun hHeld => ?_
    ·exact ⟨hL.var.cell 0 rfl, hL.var.cell 1 rfl, hL.var.cell 2 rfl, hL.var.cell 3 rfl⟩
    clear hK K
    refine To 3 rfl fun K hK => ?_
    go_simp
    refine (AD.out _ m ma _ hL.grows.le hle HM9.out hL.deck.holds).mono ?_
    rintro e wa ⟨x, xa, Ha, Aa, ca, s, q, rfl, hGa, hxa, hsa, had⟩
    have HXA := Hh (And.intro hxa (And.intro hsa (had.nice HI.out)));have hL := hL.grow hGa
    try have hX := hX.grow hGa
    have hle := hle.trans hGa.le;clear hGa hxa hsa had
    refine Ko hK ?_ fun hHeld => ?_
    ·exact ⟨hL.var.cell 0 rfl, hL.var.cell 1 rfl, hL.var.cell 2 rfl, hL.var.cell 3 rfl⟩
    clear hK K
    refine TkS 4 rfl hHeld ?_
    refine TkS 5 rfl hHeld ?_
    refine TkS 6 rfl hHeld ?_
    refine TkS 7 rfl hHeld ?_
    refine To 9 rfl fun K hK => ?_
    refine wp_store_item _ _ _ rfl _ _ rfl rfl _ _ hX.blk size_group rfl (one4g _ _ _ _ rfl rfl rfl rfl) fun wb hXb hgb => ?_
    have hL := hL.put hX hgb;have hX := XV.set (w := wb) ⟨hXb, hX.free, hX.neP, hX.neD, hX.wX⟩ hXb;clear hgb hXb;go_simp
    refine Ko hK ?_ fun hHeld => ?_
    ·exact ⟨hL.var.cell 0 rfl, hL.var.cell 1 rfl, hL.var.cell 2 rfl, hL.var.cell 3 rfl⟩
    clear hK K
    refine TkS 10 rfl hHeld ?_
    refine TkS 11 rfl hHeld ?_
    refine Wd ?_
    clear hHeld;go_wp2_with fail
    go_meet
    exact ⟨_, rfl, x, xa, Aa, ca, s, q, _, rfl, rfl, hL, hX, HXA.out.1, hle, HXA.out.2.1, HXA.out.2.2.1, HXA.out.2.2.2⟩
  case rest =>
   clear hL;obtain ⟨X, rfl, hcut⟩ := hcut;obtain ⟨x, xa, Ab, cb, s, q, Hb, rfl, rfl, hL, hX, hxa, hle, hsb, hs1, hnice⟩ := hcut;have HXB := Hh (And.intro hxa (And.intro hsb (And.intro hs1 hnice)));have HLB := Hh hle;clear hxa hsb hs1 hnice hle;obtain ⟨sn, hsn⟩ : ∃ k, s.length = k := ⟨_, rfl⟩
   have HSN := Hh hsn;rw [hsn];clear hsn;go_wp2_with fail
   refine (deck_Next _ hL.deck 3 (by omega) (by omega)).mono ?_
   rintro e wc2 ⟨r3, rfl, hr3, hd3⟩
   have hl3 := hd3.le;have hL3 := hL.step hd3;have hX3 := hX.step hd3;have HXC : Hid (LX w H sP gd P X g (gpC a.ia il a.ic a.sa sl a.sc g.number a.ma ml a.mc) Hr (.slice Ab sn cb) (.int .i64 q) wc2) := ⟨x, xa, Ab, cb, s, q, _, by rw [HSN.out], rfl, hL3, hX3, HXB.out.1.mono hl3, HLB.out.trans hl3, HXB.out.2.1.mono hl3, HXB.out.2.2.1, HXB.out.2.2.2⟩
   have HLC : Hid (Hr.le _) := HLB.out.trans hl3;clear hd3 hL hX hr3 hl3;go_upto_if 47 with fail
   go_cut [9, 10] (fun s9 s10 wx => LX w H sP gd P X g (gpC a.ia il a.ic a.sa sl a.sc g.number a.ma ml a.mc) Hr s9 s10 wx)
   case first =>
    by_cases h0 : (r3 : Int) = 0
    case neg =>
     obtain ⟨e1, e2, e3⟩ := num_ne_facts h0;clear h0 hL3 hX3;go_wp2_with fail
     go_meet
     exact HXC.out
    obtain ⟨e1, e2, e3⟩ := num_eq_facts h0;clear h0;go_upto_region 13 with fail
    clear e1 e2 e3;obtain ⟨y, hy⟩ : ∃ y : UInt8, (y.toNat : Int) = 97 + (nn : Int) := ⟨UInt8.ofNat (97 + nn), by rw [UInt8.toNat_ofNat_of_lt' (by show 97 + nn < 256; have := HNN.out; omega)]; omega⟩
    have kw1 : IntKind.i64.wrap (97 + (nn : Int)) = 97 + (nn : Int) := IntWalk.i64_in _ (by have := HNN.out; omega);have kw2 : IntKind.u8.wrap (97 + (nn : Int)) = (y.toNat : Int) := by rw [hy]; have := HNN.out; simp [IntKind.wrap, IntKind.bits, IntKind.signed]; omega
    have g0 := hL3.var.cell 0 rfl;have g1 := hL3.var.cell 1 rfl;have g2 := hL3.var.cell 2 rfl;have g3 := hL3.var.cell 3 rfl;have k1 := conv_bytes (l := [y]) (Src.new wc2 #[.int .u8 (y.toNat : Int)] 5 wc2.heap.size rfl [byteV y] rfl) 1 1 rfl;have hL4 := hL3.alloc (.cells #[.int .u8 (y.toNat : Int)] 5);have hX4 := hX3.alloc (.cells #[.int .u8 (y.toNat : Int)] 5);clear hy hL3 hX3 HXC;go_wp2_with fail
    refine (XD.out _ _ _ hL4.grows.le HLC.out hL4.deck.holds).mono ?_
    rintro e wd ⟨x5, xa5, H5, q5, rfl, hG5, hx5, hex⟩
    have HX5 := Hh (And.intro hx5 hex.nice);have hL5 := hL4.grow hG5;have hX5 := hX4.grow hG5;have hle5 := Hh hG5.le;clear hL4 hX4 hG5 hx5 hex k1 kw1 kw2 g0 g1 g2 g3;go_wp2_with (with_reducible refine stop_store ?_)
    refine wpList_store_item rfl _ _ _ rfl rfl _ _ rfl rfl _ _ hX5.blk size_group rfl (one4g _ _ _ _ rfl rfl rfl rfl) fun we hXe hge => ?_
    have hL6 := hL5.put hX5 hge;have hX6 := XV.set (w := we) ⟨hXe, hX5.free, hX5.neP, hX5.neD, hX5.wX⟩ hXe;clear hL5 hX5 hXe hge;go_wp2_with fail
    go_meet
    exact ⟨x5, xa5, none, 0, [], q5, H5, rfl, rfl, hL6, hX6, HX5.out.1, HLC.out.trans hle5.out, IsBytes.nil _, by simp, HX5.out.2⟩
   case rest =>
    clear hL3 hX3 HXC HLC HLB HXB HSN;obtain ⟨x, xa, Ab, cb, s, q, Hb, rfl, rfl, hL, hX, hxa, hle, hsb, hs1, hnice⟩ := hcut;have HXB := Hh (And.intro hxa (And.intro hsb (And.intro hs1 hnice)));have HLB := Hh hle;clear hxa hsb hs1 hnice hle;obtain ⟨sn, hsn⟩ : ∃ k, s.length = k := ⟨_, rfl⟩
    have HSN := Hh hsn;rw [hsn];clear hsn;have hi63 : (i : Int) + 1 ≤ 9223372036854775807 := by have := HI40.out; omega
    by_cases hq : q = 0
    case neg =>
     obtain ⟨e1, e2, e3⟩ := num_ne_facts hq;have hE : LEx w H sP gd P wc := ⟨g, a, Hb, by rw [HGQ.out]; exact hL, HGA.out.mono HLB.out, HVG.out⟩
     clear hq hL hX;go_wp2_with fail
     go_roundw
     case rel => exact ⟨i + 1, by go_num, (by have := H40.out; rw [Hid]; omega), hE⟩
     case measure => have := H40.out; simp [intOf]; omega
    obtain ⟨e1, e2, e3⟩ := num_eq_facts hq;have NC := Hh (HXB.out.2.2.2 hq);clear hq;go_upto_region 16 with fail
    clear e1 e2 e3;obtain ⟨num, hnum⟩ : ∃ z, g.number + 1 = z := ⟨_, rfl⟩
    have kw : IntKind.i64.wrap (g.number + 1) = num := by rw [← hnum]; exact IntWalk.i64_in _ (by have h1 := HVG.out.num0; have h2 := HVG.out.num1; omega)
    have p2 := hL.var.cell 2 rfl;have x0 := hX.blk.cell 0 rfl;have x1 := hX.blk.cell 1 rfl;have x2 : wc.cell? ⟨X, 2, none⟩ = some (.int .i64 num) := by rw [← hnum, ← NC.out.next]; exact hX.blk.cell 2 rfl
    have x3 := hX.blk.cell 3 rfl
    have VX : Hid (Calls Tryz.prog 14 #[.agg #[.slice xa.ia x.id.length xa.ic, .slice xa.sa x.secret.length xa.sc, .int .i64 num, .slice xa.ma x.members.length xa.mc]] wc (ValidOutP sP wc x)) := by
     have h := manager_Valid (HS.out.mono hL.grows.le) HXB.out.1 wc hL.deck.holds;rw [gpQ, NC.out.next, hnum] at h
     exact h
    obtain ⟨e1, e2, e3⟩ := num_eq_facts (rfl : num = num);clear hnum;go_wp2_with fail
    refine VX.out.mono ?_
    rintro e w7 ⟨b7, rfl, hv7, hb7⟩
    replace hL := hL.below hb7;replace hX := hX.below hb7;have hbt : b7 = true := hv7.2 NC.out.valid;subst hbt;clear hb7 hv7 VX p2 x0 x1 x2 x3 kw e1 e2 e3
    simp only [Bool.not_true]
    have g3 := hL.var.cell 3 rfl;go_wp2_with fail
    clear g3;have HML : Hid ((ml : Int) ≤ 16) := by have h := HVG.out.few; have h2 := HN.out.2.2; rw [Hid]; omega
    obtain ⟨WI, hWI⟩ : ∃ W, W = w7 := ⟨_, rfl⟩
    subst hWI;go_loopw [74] (fun v74 wx => ∃ j : Nat, v74 = .int .i64 (j : Int) ∧ Hid (j ≤ ml) ∧ LG w H gd P (gpC a.ia il a.ic a.sa sl a.sc g.number a.ma ml a.mc) wx Hb ∧ XV w gd P (gpQ x xa) X Hb wx) (fun v74 _ => (ml : Int).toNat + 1 - (intOf v74).toNat)
    case atStart => exact ⟨0, rfl, Nat.zero_le _, hL, hX⟩
    case round =>
     clear hL hX;obtain ⟨j, rfl, HJ, hL, hX⟩ := hrel
     by_cases hlt : (j : Int) < (ml : Int)
     ·have hjl : j < g.members.length := by rw [← HN.out.2.2]; omega
      obtain ⟨gb, go, hga, hat⟩ := (HGA.out.mono HLB.out).members.at_ (by omega);obtain ⟨d, hd, hc⟩ := hat j hjl;obtain ⟨ma, hd, hkx⟩ := hd;subst hd;obtain ⟨m, hm⟩ : ∃ m, g.members[j] = m := ⟨_, rfl⟩
      rw [hm] at hc hkx;have HMX : Hid (m ∈ g.members) := by rw [Hid, ← hm]; exact List.getElem_mem hjl
      have hhr := hL.deck.holds;have r0 := hhr.cell (hc 0 _ rfl);have r1 := hhr.cell (hc 1 _ rfl);have r2 := hhr.cell (hc 2 _ rfl);have r3 := hhr.cell (hc 3 _ rfl);have r4 := hhr.cell (hc 4 _ rfl);have r5 := hhr.cell (hc 5 _ rfl);have r6 := hhr.cell (hc 6 _ rfl)
      simp only [lieM, Nat.add_zero, Nat.zero_add, ← Nat.add_assoc] at r0 r1 r2 r3 r4 r5 r6
      have HKX := Hh hkx;have hQ := Blk.new wr 39 (memQ m ma);replace hL := hL.alloc (.cells (memQ m ma) 39);replace hX := hX.alloc (.cells (memQ m ma) 39);obtain ⟨Q, hQe⟩ : ∃ Q, wr.heap.size = Q := ⟨_, rfl⟩
      obtain ⟨w8, hw8⟩ : ∃ w8, wr.alloc (.cells (memQ m ma) 39) = w8 := ⟨_, rfl⟩
      rw [hQe, hw8] at hQ;rw [hw8] at hL hX;have HW2 := Hh (And.intro hQe hw8);have hj63 : (j : Int) + 1 ≤ 9223372036854775807 := by have := HML.out; omega
      have HJL := Hh (And.intro hjl hlt);have HG2 := Hh hga;clear hQe hw8 hat hc hkx hjl hhr hm hi63;rw [hga];go_upto_region 21 with fail
      try rw [HW2.out.1]
      try rw [HW2.out.2]
      clear r0 r1 r2 r3 r4 r5 r6 hga HW2;have hs01 : sn = 0 ∨ sn = 1 := by have := HXB.out.2.2.1; have := HSN.out; omega
      rcases hs01 with rfl | rfl
      ·clear hQ;go_wp2_with fail
       go_roundw
       case rel => exact ⟨j + 1, by go_num, (by have := HJL.out.2; exact (show j + 1 ≤ ml by omega)), (by rw [← HG2.out]; exact hL), hX⟩
       case measure => have := HJL.out.2; simp [intOf]; omega
      have q1 := hQ.cell 1 rfl
      have EQ : Hid (Calls Tryz.prog 15 #[.slice ma.sa m.sender.length ma.sc, .slice Ab 1 cb] w8 fun e w' => e = .returned (.bool false) ∧ Below w8.heap.size w8 w') := by
       have h := ref_Equal w8 ma.sa Ab m.sender s m.sender.length 1 ma.sc cb rfl HSN.out.symm (by have := HKX.out.small.1; omega) (by omega) (Src.of_row HKX.out.sender.row hL.deck.holds) (Src.of_row HXB.out.2.1.row hL.deck.holds);rw [decide_eq_false (NC.out.new (by intro e; have := HSN.out; rw [e] at this; simp at this) m HMX.out)] at h
       exact h
      clear hQ;go_wp2_with fail
      refine EQ.out.mono ?_
      rintro e w9 ⟨rfl, hb9⟩
      replace hL := hL.below hb9;replace hX := hX.below hb9;clear hb9 EQ q1;go_wp2_with fail
      go_roundw
      case rel => exact ⟨j + 1, by go_num, (by have := HJL.out.2; exact (show j + 1 ≤ ml by omega)), (by rw [← HG2.out]; exact hL), hX⟩
      case measure => have := HJL.out.2; simp [intOf]; omega
     ·have x0 := hX.blk.cell 0 rfl;have x1 := hX.blk.cell 1 rfl;have x2 := hX.blk.cell 2 rfl;have x3 := hX.blk.cell 3 rfl;go_wp2_with (with_reducible refine stop_store ?_)
      refine wpList_store_item rfl _ _ _ rfl rfl _ _ rfl rfl _ _ hL.var size_group rfl (one4g _ _ _ _ rfl rfl rfl rfl) fun w9 hT9 hg9 => ?_
      have hE : LEx w H sP gd P w9 := ⟨x, xa, Hb, hL.set hT9 hg9, HXB.out.1, NC.out.valid⟩
      clear hL hX hT9 hg9 x0 x1 x2 x3;go_wp2_with fail
      go_roundw
      case rel => exact ⟨i + 1, by go_num, (by have := H40.out; rw [Hid]; omega), hE⟩
      case measure => have := H40.out; simp [intOf]; omega
end Go.Proofs.YtgaoknihklmakaaGreatDoor
