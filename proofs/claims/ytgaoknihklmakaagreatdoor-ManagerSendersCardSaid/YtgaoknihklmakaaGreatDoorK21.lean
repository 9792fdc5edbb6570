/- squeezed. Walks: a member of the deck, and t -/
import Derived.Test.YtgaoknihklmakaaGreatDoorK20
import Derived.Test.YtgaoknihklmakaaGreatDoorK12
import Derived.Test.YtgaoknihklmakaaGreatDoorK17
import Derived.Test.YtgaoknihklmakaaGreatDoorK13
set_option linter.unusedVariables false
set_option linter.unusedSimpArgs false
set_option maxRecDepth 100000
set_option maxHeartbeats 12800000
namespace Go.Proofs.YtgaoknihklmakaaGreatDoor
open Go.RowKit
theorem wp_conv_strM {w : World} {o : Oper} {a : Act} {K : Act → World → Prop} {Q : Exit → Act → World → Prop} (s : Operand)
  (ho : o.op = .convert 27 9 s) (A : Option Addr) (n c : Nat) (l : List UInt8) (hs : a.eval s = .slice A n c) (hn : n = l.length) (hS : Src w A (l.map byteV))
  (h : K (a.put o.dst (.string ⟨l.toArray⟩)) w) : o.wp Tryz.prog a w K Q := by
 have hrun := conv_bytes hS n c hn
 unfold Oper.wp execOp
 simp only [ho, hs, Sem.run_bind, Sem.run_pure, Result.andThen_ok, hrun]
 exact h
theorem byteModV (z : Int) (h0 : 0 ≤ z) (h1 : z < 256) : ∃ x : UInt8, Value.int .u8 (IntKind.u8.wrap z) = byteV x ∧ (x.toNat : Int) = z := by
 have e : ((UInt8.ofNat z.toNat).toNat : Int) = z := by rw [UInt8.toNat_ofNat_of_lt' (by show z.toNat < 256; omega)]; omega
 refine ⟨UInt8.ofNat z.toNat, ?_, e⟩
 rw [byteV, e];congr 1
 simp [IntKind.wrap, IntKind.bits, IntKind.signed]
 omega
theorem valid_one : ∀ x : Fin 128, Lib.validD [UInt8.ofNat x.val] = true := by decide +kernel
theorem sound_of (x : UInt8) {m : Mb} (hn : m.name = ⟨[x].toArray⟩) (hx : x.toNat < 128) (h1 : 1 ≤ m.roles) (h2 : m.roles ≤ 7) (hc : credP m.cred = true) (hs : m.share.length = 32) : soundP m = true := by
 have hv : Lib.validD m.name.data.toList = true := by
  rw [hn];have h := valid_one ⟨x.toNat, hx⟩;rw [UInt8.ofNat_toNat] at h
  exact h
 have hz : m.name.size = 1 := by rw [hn]; rfl
 unfold soundP
 rw [hz, hv, hc, hs, decide_eq_true h1, decide_eq_true h2];rfl
theorem mk2_PlainlyP {H : Snap} (hTab : Tabs H) (n roles : Int) (w : World) (hH : Holds w H) :
  Calls Tryz.prog 12 #[.int .i64 n, .int .i64 roles] w (MemGivesP soundP roles w H) := by
 have hT := Blk.new w 39 zeroM;have hTn : H w.heap.size = none := hH.none_of_ge (Nat.le_refl _);have hG := (Grows.refl hH).alloc (.cells zeroM 39);have HT := Hh hTab;clear hTab hH;go_enter Tryz.func12, Tryz.ntmps12
 go_wp2_with fail
 refine (mk_Seed n _).mono ?_
 rintro e w1 ⟨A1, c1, l1, rfl, hl1, hf1⟩
 obtain ⟨H1, hG1, hi1, hjk⟩ := Fresh.snapB hG.holds hf1;replace hTn := hG1.none hTn hT.lt;replace hT := hT.below hG1.below;replace hG := hG.trans hG1;obtain ⟨cl, hcl⟩ : ∃ cl : Cl, cl = ⟨⟨#[]⟩, ⟨#[109]⟩, 0, 0, ⟨1, 6, 0, [], l1, [], []⟩⟩ := ⟨_, rfl⟩
 have HV : Hid (validC cl = true ∧ credP (encB (itmCl cl)) = true) := by
  rw [show cl = plC l1 from hcl]
  exact ⟨(plC_said l1 hl1).1, plC_cred hl1⟩
 have hca : ClA H1 cl ⟨none, 0, A1, c1, none, 0, none, 0⟩ := by
  rw [hcl]
  exact ⟨by show (0 : Nat) ≤ _; omega, by show (1 : Nat) ≤ _; omega, by show (-9223372036854775808 : Int) ≤ 0 ∧ (0 : Int) ≤ 9223372036854775807; omega, by show (-9223372036854775808 : Int) ≤ 0 ∧ (0 : Int) ≤ 9223372036854775807; omega, ⟨by simp, by simp, by simp, IsBytes.nil _, hi1, IsBytes.nil _, IsBytes.nil _⟩⟩
 have EN : Hid (Calls Tryz.prog 23 #[.agg (clC ⟨#[]⟩ ⟨#[109]⟩ 0 0 1 6 0 none 0 0 A1 32 c1 none 0 0 none 0 0)] w1 (EncCOut w1 cl)) := by
  have h := ref21_Encode (HT.out.mono hG.le) hca w1 hG.holds
  have e : clQ cl ⟨none, 0, A1, c1, none, 0, none, 0⟩ = clC ⟨#[]⟩ ⟨#[109]⟩ 0 0 1 6 0 none 0 0 A1 32 c1 none 0 0 none 0 0 := by
   rw [hcl];show clC ⟨#[]⟩ ⟨#[109]⟩ 0 0 1 6 0 none 0 0 A1 l1.length c1 none 0 0 none 0 0 = _
   rw [hl1]
  rw [e] at h
  exact h
 clear hf1 hjk hi1 hG1 hca hcl hl1;go_wp2_with fail
 refine EN.out.mono ?_
 rintro e w2 ⟨r2, l2, cd, rfl, hf2, hl2, hcd⟩
 have HL2 : Hid (l2.length ≤ 1700) := by
  rw [Hid, hl2]
  split
  ·rename_i hv
   exact (len_itmCl hv).2
  ·simp
 have HCR : Hid (credP l2 = true) := by rw [Hid, hl2, if_pos HV.out.1]; exact HV.out.2
 obtain ⟨A2, c2, rfl, hjk⟩ := hf2.own.form;obtain ⟨H2, hG2, hi2, hjk2⟩ := Fresh.snapB hG.holds hf2;replace hTn := hG2.none hTn hT.lt;replace hT := hT.below hG2.below;replace hG := hG.trans hG2;have HI2 := Hh hi2;obtain ⟨n2, hn2⟩ : ∃ k, l2.length = k := ⟨_, rfl⟩
 have HN2 := Hh hn2;rw [hn2];clear hf2 hl2 hcd hjk hjk2 hi2 hG2 EN hn2;go_upto_region 2 with fail
 replace hT := hT.below (Below.refl _ _).drew;replace hG := hG.drew;have hle := Snap.le.refl H2
 refine wp_region_ways 16 (fun _ => True) (by kernel_rfl) (trivial) (fun hHeld => ?_)
 refine TkS 0 rfl hHeld ?_
 refine TkS 6 rfl hHeld ?_
 refine TkS 7 rfl hHeld ?_
 refine TkS 8 rfl hHeld ?_
 refine TkS 9 rfl hHeld ?_
 refine TkS 11 rfl hHeld ?_
 refine TkS 12 rfl hHeld ?_
 refine To 1 rfl fun K hK => ?_
 go_simp
 refine (mk_Mod n 26 (by omega) (by omega) _).mono ?_
 rintro e w3 ⟨rfl, rfl⟩
 have HRB := Hh (modP_bnd n 26 (by omega))
 generalize modP n 26 = r at HRB ⊢
 have kw : IntKind.i64.wrap (97 + r) = 97 + r := IntWalk.i64_in _ (by have := HRB.out; omega);obtain ⟨x, hx, hxv⟩ := byteModV (97 + r) (by have := HRB.out; omega) (by have := HRB.out; omega);have HXV := Hh hxv;clear hxv
 refine Ko hK ?_ fun hHeld => ?_
 ·trivial
 clear hK K
 refine TkS 2 rfl hHeld ?_
 refine TkS 3 rfl hHeld ?_
 refine Ways.two (i := 4) (j := 10) rfl rfl (by kernel_rfl) (fun K hK => ?_) (fun K hK => ?_)
 ·go_simp
  have hL := hG.newBlk 5 #[byteV x];have hT := hT.alloc (.cells #[byteV x] 5);have hG := hG.alloc (.cells #[byteV x] 5)
  refine Ko hK ?_ fun hHeld => ?_
  ·trivial
  clear hK K
  refine Ways.two (i := 5) (j := 10) rfl rfl (by kernel_rfl) (fun K hK => ?_) (fun K hK => ?_)
  ·refine wp_conv_strM _ rfl _ 1 1 [x] rfl rfl hL.srcM ?_
   refine Ko hK ?_ fun hHeld => ?_
   ·trivial
   clear hK K
   refine To 10 rfl fun K hK => ?_
   go_simp
   refine (mk_Seed _ _).mono ?_
   rintro e w10 ⟨A10, c10, l10, rfl, hl10, hf10⟩
   obtain ⟨H10, hG10, hi10, hjk10⟩ := Fresh.snapB hG.holds hf10;have hTn := hG10.none hTn hT.lt;have hT := hT.below hG10.below
   try have hL := hL.below hG10.below
   have hG := hG.trans hG10;have hle := hle.trans hG10.le;have HI10 := Hh (And.intro hi10 hl10);clear hjk10 hf10 hi10 hG10 hl10
   refine Ko hK ?_ fun hHeld => ?_
   ·trivial
   clear hK K
   refine To 13 rfl fun K hK => ?_
   go_simp
   refine (mk_Some (n := 16) _ (by omega) _).mono ?_
   rintro e w13 ⟨A13, c13, l13, rfl, hl13, hf13⟩
   obtain ⟨H13, hG13, hi13, hjk13⟩ := Fresh.snapB hG.holds hf13;have hTn := hG13.none hTn hT.lt;have hT := hT.below hG13.below
   try have hL := hL.below hG13.below
   have hG := hG.trans hG13;have hle := hle.trans hG13.le;have HI13 := Hh (And.intro hi13 (And.intro hl13 hG13.le));clear hjk13 hf13 hi13 hG13 hl13
   refine Ko hK ?_ fun hHeld => ?_
   ·trivial
   clear hK K
   refine TkS 14 rfl hHeld ?_
   refine To 15 rfl fun K hK => ?_
   refine wp_store_item _ _ _ rfl w.heap.size _ rfl rfl _ _ hT size_mem rfl (one7m _ _ _ _ _ _ _ rfl rfl rfl rfl rfl rfl rfl) fun w15 hT15 hg15 => ?_
   have hG := hG.grownOwn hTn (Nat.le_refl _) hg15;clear hg15 hT;go_simp
   refine Ko hK ?_ fun hHeld => ?_
   ·trivial
   clear hK K
   refine Wd ?_
   clear hHeld;go_wp2_with fail
   refine ret_row rfl rfl hT15 rfl rfl size_mem rfl ?_
   exact ⟨⟨⟨[x].toArray⟩, [], roles, l2, l10, l13, 0⟩, ⟨none, 0, A2, c2, A10, c10, A13, c13⟩, H13, by rw [memQ, HN2.out, HI10.out.2, HI13.out.2.1]; rfl, hG, ⟨by show (1 : Nat) ≤ _; omega, IsBytes.nil _, HI2.out.mono hle, HI10.out.1.mono HI13.out.2.2, HI13.out.1, by show (0 : Nat) ≤ _; omega, by show l2.length ≤ _; have := HL2.out; omega, by show l10.length ≤ _; have := HI10.out.2; omega, by show l13.length ≤ _; have := HI13.out.2.1; omega⟩, ⟨HI13.out.2.1, fun h1 h2 => by
    show soundP _ = true
    exact sound_of x rfl (by have := HRB.out; have := HXV.out; omega) h1 h2 HCR.out HI10.out.2⟩⟩
  ·go_simp
   refine (mk_Seed _ _).mono ?_
   rintro e w10 ⟨A10, c10, l10, rfl, hl10, hf10⟩
   obtain ⟨H10, hG10, hi10, hjk10⟩ := Fresh.snapB hG.holds hf10;have hTn := hG10.none hTn hT.lt;have hT := hT.below hG10.below
   try have hL := hL.below hG10.below
   have hG := hG.trans hG10;have hle := hle.trans hG10.le;have HI10 := Hh (And.intro hi10 hl10);clear hjk10 hf10 hi10 hG10 hl10
   refine Ko hK ?_ fun hHeld => ?_
   ·trivial
   clear hK K
   refine Ways.two (i := 5) (j := 13) rfl rfl (by kernel_rfl) (fun K hK => ?_) (fun K hK => ?_)
   ·refine wp_conv_strM _ rfl _ 1 1 [x] rfl rfl hL.srcM ?_
    refine Ko hK ?_ fun hHeld => ?_
    ·trivial
    clear hK K
    refine To 13 rfl fun K hK => ?_
    go_simp
    refine (mk_Some (n := 16) _ (by omega) _).mono ?_
    rintro e w13 ⟨A13, c13, l13, rfl, hl13, hf13⟩
    obtain ⟨H13, hG13, hi13, hjk13⟩ := Fresh.snapB hG.holds hf13;have hTn := hG13.none hTn hT.lt;have hT := hT.below hG13.below
    try have hL := hL.below hG13.below
    have hG := hG.trans hG13;have hle := hle.trans hG13.le;have HI13 := Hh (And.intro hi13 (And.intro hl13 hG13.le));clear hjk13 hf13 hi13 hG13 hl13
    refine Ko hK ?_ fun hHeld => ?_
    ·trivial
    clear hK K
    refine TkS 14 rfl hHeld ?_
    refine To 15 rfl fun K hK => ?_
    refine wp_store_item _ _ _ rfl w.heap.size _ rfl rfl _ _ hT size_mem rfl (one7m _ _ _ _ _ _ _ rfl rfl rfl rfl rfl rfl rfl) fun w15 hT15 hg15 => ?_
    have hG := hG.grownOwn hTn (Nat.le_refl _) hg15;clear hg15 hT;go_simp
    refine Ko hK ?_ fun hHeld => ?_
    ·trivial
    clear hK K
    refine Wd ?_
    clear hHeld;go_wp2_with fail
    refine ret_row rfl rfl hT15 rfl rfl size_mem rfl ?_
    exact ⟨⟨⟨[x].toArray⟩, [], roles, l2, l10, l13, 0⟩, ⟨none, 0, A2, c2, A10, c10, A13, c13⟩, H13, by rw [memQ, HN2.out, HI10.out.2, HI13.out.2.1]; rfl, hG, ⟨by show (1 : Nat) ≤ _; omega, IsBytes.nil _, HI2.out.mono hle, HI10.out.1.mono HI13.out.2.2, HI13.out.1, by show (0 : Nat) ≤ _; omega, by show l2.length ≤ _; have := HL2.out; omega, by show l10.length ≤ _; have := HI10.out.2; omega, by show l13.length ≤ _; have := HI13.out.2.1; omega⟩, ⟨HI13.out.2.1, fun h1 h2 => by
     show soundP _ = true
     exact sound_of x rfl (by have := HRB.out; have := HXV.out; omega) h1 h2 HCR.out HI10.out.2⟩⟩
   ·go_simp
    refine (mk_Some (n := 16) _ (by omega) _).mono ?_
    rintro e w13 ⟨A13, c13, l13, rfl, hl13, hf13⟩
    obtain ⟨H13, hG13, hi13, hjk13⟩ := Fresh.snapB hG.holds hf13;have hTn := hG13.none hTn hT.lt;have hT := hT.below hG13.below
    try have hL := hL.below hG13.below
    have hG := hG.trans hG13;have hle := hle.trans hG13.le;have HI13 := Hh (And.intro hi13 (And.intro hl13 hG13.le));clear hjk13 hf13 hi13 hG13 hl13
    refine Ko hK ?_ fun hHeld => ?_
    ·trivial
    clear hK K
    refine To 5 rfl fun K hK => ?_
    refine wp_conv_strM _ rfl _ 1 1 [x] rfl rfl hL.srcM ?_
    refine Ko hK ?_ fun hHeld => ?_
    ·trivial
    clear hK K
    refine TkS 14 rfl hHeld ?_
    refine To 15 rfl fun K hK => ?_
    refine wp_store_item _ _ _ rfl w.heap.size _ rfl rfl _ _ hT size_mem rfl (one7m _ _ _ _ _ _ _ rfl rfl rfl rfl rfl rfl rfl) fun w15 hT15 hg15 => ?_
    have hG := hG.grownOwn hTn (Nat.le_refl _) hg15;clear hg15 hT;go_simp
    refine Ko hK ?_ fun hHeld => ?_
    ·trivial
    clear hK K
    refine Wd ?_
    clear hHeld;go_wp2_with fail
    refine ret_row rfl rfl hT15 rfl rfl size_mem rfl ?_
    exact ⟨⟨⟨[x].toArray⟩, [], roles, l2, l10, l13, 0⟩, ⟨none, 0, A2, c2, A10, c10, A13, c13⟩, H13, by rw [memQ, HN2.out, HI10.out.2, HI13.out.2.1]; rfl, hG, ⟨by show (1 : Nat) ≤ _; omega, IsBytes.nil _, HI2.out.mono hle, HI10.out.1.mono HI13.out.2.2, HI13.out.1, by show (0 : Nat) ≤ _; omega, by show l2.length ≤ _; have := HL2.out; omega, by show l10.length ≤ _; have := HI10.out.2; omega, by show l13.length ≤ _; have := HI13.out.2.1; omega⟩, ⟨HI13.out.2.1, fun h1 h2 => by
     show soundP _ = true
     exact sound_of x rfl (by have := HRB.out; have := HXV.out; omega) h1 h2 HCR.out HI10.out.2⟩⟩
 ·go_simp
  refine (mk_Seed _ _).mono ?_
  rintro e w10 ⟨A10, c10, l10, rfl, hl10, hf10⟩
  obtain ⟨H10, hG10, hi10, hjk10⟩ := Fresh.snapB hG.holds hf10;have hTn := hG10.none hTn hT.lt;have hT := hT.below hG10.below
  try have hL := hL.below hG10.below
  have hG := hG.trans hG10;have hle := hle.trans hG10.le;have HI10 := Hh (And.intro hi10 hl10);clear hjk10 hf10 hi10 hG10 hl10
  refine Ko hK ?_ fun hHeld => ?_
  ·trivial
  clear hK K
  refine Ways.two (i := 4) (j := 13) rfl rfl (by kernel_rfl) (fun K hK => ?_) (fun K hK => ?_)
  ·go_simp
   have hL := hG.newBlk 5 #[byteV x];have hT := hT.alloc (.cells #[byteV x] 5);have hG := hG.alloc (.cells #[byteV x] 5)
   refine Ko hK ?_ fun hHeld => ?_
   ·trivial
   clear hK K
   refine Ways.two (i := 5) (j := 13) rfl rfl (by kernel_rfl) (fun K hK => ?_) (fun K hK => ?_)
   ·refine wp_conv_strM _ rfl _ 1 1 [x] rfl rfl hL.srcM ?_
    refine Ko hK ?_ fun hHeld => ?_
    ·trivial
    clear hK K
    refine To 13 rfl fun K hK => ?_
    go_simp
    refine (mk_Some (n := 16) _ (by omega) _).mono ?_
    rintro e w13 ⟨A13, c13, l13, rfl, hl13, hf13⟩
    obtain ⟨H13, hG13, hi13, hjk13⟩ := Fresh.snapB hG.holds hf13;have hTn := hG13.none hTn hT.lt;have hT := hT.below hG13.below
    try have hL := hL.below hG13.below
    have hG := hG.trans hG13;have hle := hle.trans hG13.le;have HI13 := Hh (And.intro hi13 (And.intro hl13 hG13.le));clear hjk13 hf13 hi13 hG13 hl13
    refine Ko hK ?_ fun hHeld => ?_
    ·trivial
    clear hK K
    refine TkS 14 rfl hHeld ?_
    refine To 15 rfl fun K hK => ?_
    refine wp_store_item _ _ _ rfl w.heap.size _ rfl rfl _ _ hT size_mem rfl (one7m _ _ _ _ _ _ _ rfl rfl rfl rfl rfl rfl rfl) fun w15 hT15 hg15 => ?_
    have hG := hG.grownOwn hTn (Nat.le_refl _) hg15;clear hg15 hT;go_simp
    refine Ko hK ?_ fun hHeld => ?_
    ·trivial
    clear hK K
    refine Wd ?_
    clear hHeld;go_wp2_with fail
    refine ret_row rfl rfl hT15 rfl rfl size_mem rfl ?_
    exact ⟨⟨⟨[x].toArray⟩, [], roles, l2, l10, l13, 0⟩, ⟨none, 0, A2, c2, A10, c10, A13, c13⟩, H13, by rw [memQ, HN2.out, HI10.out.2, HI13.out.2.1]; rfl, hG, ⟨by show (1 : Nat) ≤ _; omega, IsBytes.nil _, HI2.out.mono hle, HI10.out.1.mono HI13.out.2.2, HI13.out.1, by show (0 : Nat) ≤ _; omega, by show l2.length ≤ _; have := HL2.out; omega, by show l10.length ≤ _; have := HI10.out.2; omega, by show l13.length ≤ _; have := HI13.out.2.1; omega⟩, ⟨HI13.out.2.1, fun h1 h2 => by
     show soundP _ = true
     exact sound_of x rfl (by have := HRB.out; have := HXV.out; omega) h1 h2 HCR.out HI10.out.2⟩⟩
   ·go_simp
    refine (mk_Some (n := 16) _ (by omega) _).mono ?_
    rintro e w13 ⟨A13, c13, l13, rfl, hl13, hf13⟩
    obtain ⟨H13, hG13, hi13, hjk13⟩ := Fresh.snapB hG.holds hf13;have hTn := hG13.none hTn hT.lt;have hT := hT.below hG13.below
    try have hL := hL.below hG13.below
    have hG := hG.trans hG13;have hle := hle.trans hG13.le;have HI13 := Hh (And.intro hi13 (And.intro hl13 hG13.le));clear hjk13 hf13 hi13 hG13 hl13
    refine Ko hK ?_ fun hHeld => ?_
    ·trivial
    clear hK K
    refine To 5 rfl fun K hK => ?_
    refine wp_conv_strM _ rfl _ 1 1 [x] rfl rfl hL.srcM ?_
    refine Ko hK ?_ fun hHeld => ?_
    ·trivial
    clear hK K
    refine TkS 14 rfl hHeld ?_
    refine To 15 rfl fun K hK => ?_
    refine wp_store_item _ _ _ rfl w.heap.size _ rfl rfl _ _ hT size_mem rfl (one7m _ _ _ _ _ _ _ rfl rfl rfl rfl rfl rfl rfl) fun w15 hT15 hg15 => ?_
    have hG := hG.grownOwn hTn (Nat.le_refl _) hg15;clear hg15 hT;go_simp
    refine Ko hK ?_ fun hHeld => ?_
    ·trivial
    clear hK K
    refine Wd ?_
    clear hHeld;go_wp2_with fail
    refine ret_row rfl rfl hT15 rfl rfl size_mem rfl ?_
    exact ⟨⟨⟨[x].toArray⟩, [], roles, l2, l10, l13, 0⟩, ⟨none, 0, A2, c2, A10, c10, A13, c13⟩, H13, by rw [memQ, HN2.out, HI10.out.2, HI13.out.2.1]; rfl, hG, ⟨by show (1 : Nat) ≤ _; omega, IsBytes.nil _, HI2.out.mono hle, HI10.out.1.mono HI13.out.2.2, HI13.out.1, by show (0 : Nat) ≤ _; omega, by show l2.length ≤ _; have := HL2.out; omega, by show l10.length ≤ _; have := HI10.out.2; omega, by show l13.length ≤ _; have := HI13.out.2.1; omega⟩, ⟨HI13.out.2.1, fun h1 h2 => by
     show soundP _ = true
     exact sound_of x rfl (by have := HRB.out; have := HXV.out; omega) h1 h2 HCR.out HI10.out.2⟩⟩
  ·go_simp
   refine (mk_Some (n := 16) _ (by omega) _).mono ?_
   rintro e w13 ⟨A13, c13, l13, rfl, hl13, hf13⟩
   obtain ⟨H13, hG13, hi13, hjk13⟩ := Fresh.snapB hG.holds hf13;have hTn := hG13.none hTn hT.lt;have hT := hT.below hG13.below
   try have hL := hL.below hG13.below
   have hG := hG.trans hG13;have hle := hle.trans hG13.le;have HI13 := Hh (And.intro hi13 (And.intro hl13 hG13.le));clear hjk13 hf13 hi13 hG13 hl13
   refine Ko hK ?_ fun hHeld => ?_
   ·trivial
   clear hK K
   refine To 4 rfl fun K hK => ?_
   go_simp
   have hL := hG.newBlk 5 #[byteV x];have hT := hT.alloc (.cells #[byteV x] 5);have hG := hG.alloc (.cells #[byteV x] 5)
   refine Ko hK ?_ fun hHeld => ?_
   ·trivial
   clear hK K
   refine To 5 rfl fun K hK => ?_
   refine wp_conv_strM _ rfl _ 1 1 [x] rfl rfl hL.srcM ?_
   refine Ko hK ?_ fun hHeld => ?_
   ·trivial
   clear hK K
   refine TkS 14 rfl hHeld ?_
   refine To 15 rfl fun K hK => ?_
   refine wp_store_item _ _ _ rfl w.heap.size _ rfl rfl _ _ hT size_mem rfl (one7m _ _ _ _ _ _ _ rfl rfl rfl rfl rfl rfl rfl) fun w15 hT15 hg15 => ?_
   have hG := hG.grownOwn hTn (Nat.le_refl _) hg15;clear hg15 hT;go_simp
   refine Ko hK ?_ fun hHeld => ?_
   ·trivial
   clear hK K
   refine Wd ?_
   clear hHeld;go_wp2_with fail
   refine ret_row rfl rfl hT15 rfl rfl size_mem rfl ?_
   exact ⟨⟨⟨[x].toArray⟩, [], roles, l2, l10, l13, 0⟩, ⟨none, 0, A2, c2, A10, c10, A13, c13⟩, H13, by rw [memQ, HN2.out, HI10.out.2, HI13.out.2.1]; rfl, hG, ⟨by show (1 : Nat) ≤ _; omega, IsBytes.nil _, HI2.out.mono hle, HI10.out.1.mono HI13.out.2.2, HI13.out.1, by show (0 : Nat) ≤ _; omega, by show l2.length ≤ _; have := HL2.out; omega, by show l10.length ≤ _; have := HI10.out.2; omega, by show l13.length ≤ _; have := HI13.out.2.1; omega⟩, ⟨HI13.out.2.1, fun h1 h2 => by
    show soundP _ = true
    exact sound_of x rfl (by have := HRB.out; have := HXV.out; omega) h1 h2 HCR.out HI10.out.2⟩⟩
theorem law35_senders {H : Snap} (hTab : Tabs H) {A : Option Addr} {c : Nat} {l : List Int} (hl : IsInts H A c l) (w : World) (hH : Holds w H) :
  Calls Tryz.prog 3 #[.slice A l.length c] w (BoolOut w) :=
 law35_senders_of soundP_since (soundIs hTab) (fun K hk n roles wx hx => mk2_PlainlyP (hTab.mono hk) n roles wx hx) mk_Seed hl w hH
end Go.Proofs.YtgaoknihklmakaaGreatDoor
