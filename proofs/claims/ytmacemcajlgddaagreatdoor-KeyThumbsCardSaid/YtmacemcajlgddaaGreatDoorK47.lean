/- squeezed. SHA-256: the constants. -/
import Derived.Test.YtmacemcajlgddaaGreatDoorK46
import Derived.Test.YtmacemcajlgddaaGreatDoorK44
set_option linter.unusedVariables false
set_option linter.unusedSimpArgs false
set_option maxRecDepth 100000
set_option maxHeartbeats 6400000
namespace Go.Proofs.YtmacemcajlgddaaGreatDoor
open Go.RowKit
def constOK (n : Nat) (x : Nat × Nat) : Bool := primeOK x.1 && isFrac n x.1 x.2 && decide (x.2 < 18446744073709551616)
theorem consts_ok3 : (primesN.zip constK).all (constOK 3) = true := by kernel_rfl
theorem consts_ok2 : (primesN.zip constH).all (constOK 2) = true := by kernel_rfl
theorem constOK_spec {n p c : Nat} (h : constOK n (p, c) = true) : primeOK p = true ∧ isFrac n p c = true ∧ c < 18446744073709551616 := by
 unfold constOK at h
 simp only [Bool.and_eq_true, decide_eq_true_eq] at h
 exact ⟨h.1.1, h.1.2, h.2⟩
theorem all_zip_at {f : Nat × Nat → Bool} {l m : List Nat} (h : (l.zip m).all f = true) (i : Nat) (hl : i < l.length) (hm : i < m.length) : f (l[i], m[i]) = true := by
 rw [List.all_eq_true] at h;have hz : i < (l.zip m).length := by rw [List.length_zip]; omega
 have h1 := h _ (List.getElem_mem hz);rw [List.getElem_zip] at h1
 exact h1
theorem getN_eq {l : List Nat} {i : Nat} (h : i < l.length) : getN l i = l[i] := by simp [getN, h]
def P64 : List Nat := primesN.take 64
def K64 : List Nat := constK.take 64
theorem P64_len : P64.length = 64 := rfl
theorem K64_len : K64.length = 64 := rfl
theorem const3_at {i : Nat} (h : i < 64) : primeOK (getN P64 i) = true ∧ isFrac 3 (getN P64 i) (getN K64 i) = true ∧ getN K64 i < 18446744073709551616 := by
 have h1 : primesN.length = 80 := rfl;have h2 : constK.length = 80 := rfl;have hP : getN P64 i = primesN[i] := by rw [getN_eq (by rw [P64_len]; exact h)]; simp [P64]
 have hK : getN K64 i = constK[i] := by rw [getN_eq (by rw [K64_len]; exact h)]; simp [K64]
 rw [hP, hK]
 exact constOK_spec (all_zip_at consts_ok3 i (by omega) (by omega))
theorem const2_at {i : Nat} (h : i < 8) : isFrac 2 (getN P64 i) (getN constH i) = true ∧ getN constH i < 18446744073709551616 := by
 have h1 : primesN.length = 80 := rfl;have h2 : constH.length = 8 := rfl;have hP : getN P64 i = primesN[i] := by rw [getN_eq (by rw [P64_len]; omega)]; simp [P64]
 rw [hP, getN_eq (by omega)]
 exact (constOK_spec (all_zip_at consts_ok2 i (by omega) (by omega))).2
def hsP : Nat → List Nat
 | 0 => List.replicate 8 0
 | k + 1 => if k < 8 then (hsP k).set k (getN constH k) else hsP k
theorem hsP_len : ∀ k, (hsP k).length = 8
 | 0 => rfl
 | k + 1 => by
  rw [hsP]
  split
  ·rw [List.length_set, hsP_len k]
  ·exact hsP_len k
theorem hsP_lo {k : Nat} (h : k < 8) : hsP (k + 1) = (hsP k).set k (getN constH k) := if_pos h
theorem hsP_hi {k : Nat} (h : ¬ k < 8) : hsP (k + 1) = hsP k := if_neg h
theorem hsP_64 : hsP 64 = constH := by kernel_rfl
theorem take_snocN {l : List Nat} {i : Nat} (h : i < l.length) : l.take (i + 1) = l.take i ++ [getN l i] := by
 rw [List.take_succ_eq_append_getElem h, getN_eq h]
theorem list8n {α : Type} {l : List α} (h : l.length = 8) : ∃ a b c d e f g i, l = [a, b, c, d, e, f, g, i] := by
 match l, h with
 | [a, b, c, d, e, f, g, i], _ => exact ⟨a, b, c, d, e, f, g, i, rfl⟩
theorem size_w8q : (Tryz.prog.info? 59).map (·.size) = some 8 := by kernel_rfl
theorem results_tmp_cell {fn : Func} {p u : Tmp} {ty : TypeId} (h : fn.results = #[.tmp u, .cell p ty]) (tmps : Array Value) (P : Program) (w : World) :
  (results fn tmps).run P w =
   ((asAddr (tmps.getD p undef)).run P w).andThen fun a w₁ => ((loadVar ty a).run P w₁).andThen fun x w₂ => .ok (.tuple #[tmps.getD u undef, x]) w₂ := by
 simp only [results, h]
 simp [Sem.run_bind, Result.andThen]
theorem ret_tmp_row {fn : Func} {p u : Tmp} {ty : TypeId} {a : Act} {w : World} {R : Ending → World → Prop} {g : Nat} {t : TypeId} {cs : Array Value} {d : TypeDesc} (h : fn.results = #[.tmp u, .cell p ty]) (hp : a.tmps.getD p undef = .pointer (some ⟨g, 0, none⟩)) (hg : Blk w g t cs)
  (hd : (match d with | .struct _ | .array _ _ => true | _ => false) = true) (hu : Tryz.prog.underlying ty = some d) (hi : (Tryz.prog.info? ty).map (·.size) = some cs.size)
  (hdf : a.defers = []) (hR : R (.returned (.tuple #[a.tmps.getD u undef, .agg cs])) w) : bodyPost Tryz.prog fn R .ret a w := by
 refine bodyPost_ret (v := .tuple #[a.tmps.getD u undef, .agg cs]) ?_ hdf hR
 rw [results_tmp_cell h, hp];have hd' := run_loadVar_row (P := Tryz.prog) w g t ty cs (0, 0) d hg hu (by cases d <;> first | exact hd | rfl | cases hd) hi
 simp [asAddr, hd', Result.andThen]
theorem sha_constants (H : Snap) (w : World) : Calls Tryz.prog 30 #[.int .i64 64] w fun e w' => ∃ A c, e = .returned (.tuple #[.slice A 64 c, .agg (rowN constH)]) ∧ OwnX lieU 49 w' w.heap.size (.slice A 64 c) H K64 ∧ Below w.heap.size w w' := by
 have hB0 := Blk.new w 59 #[.int .u64 0, .int .u64 0, .int .u64 0, .int .u64 0, .int .u64 0, .int .u64 0, .int .u64 0, .int .u64 0];have hb0 := below_box w (.cells #[.int .u64 0, .int .u64 0, .int .u64 0, .int .u64 0, .int .u64 0, .int .u64 0, .int .u64 0, .int .u64 0] 59);have hO0 := (OwnX.nil lieU 49 w w.heap.size H).alloc (.cells #[.int .u64 0, .int .u64 0, .int .u64 0, .int .u64 0, .int .u64 0, .int .u64 0, .int .u64 0, .int .u64 0] 59)
 generalize hw1 : w.alloc (.cells #[.int .u64 0, .int .u64 0, .int .u64 0, .int .u64 0, .int .u64 0, .int .u64 0, .int .u64 0, .int .u64 0] 59) = w1 at hB0 hb0 hO0
 have HW1 := Hh hw1;have PR := Hh (sha_primes H w1);clear hw1;go_enter Tryz.func30, Tryz.ntmps30
 go_wp2_with fail
 rw [HW1.out]
 refine PR.out.mono ?_
 rintro e w2 ⟨PA, pc, rfl, hP, hb2⟩
 have hB2 := hB0.below hb2;have hO2 := hO0.below hb2;have hb3 := hb0.trans (hb2.mono hb0.size);have HPA : Hid (w1.heap.size ≤ w2.heap.size ∧ w.heap.size + 1 = w1.heap.size) := ⟨hb2.size, by rw [← HW1.out, size_alloc]⟩
 have HPO := Hh (fun q (hq : (Value.slice PA 64 pc).ownBlock = some q) => hP.lt q hq);obtain ⟨pg, rfl, hp⟩ := ownU_at hP (by decide);clear PR hb0 hb2 hB0 hO0 HW1;go_wp2_with fail
 go_loopw [2, 9] (fun v2 v9 wr => ∃ (i : Nat), v9 = .int .i64 (i : Int) ∧ Hid (i ≤ 64) ∧ OwnX lieU 49 wr w.heap.size v2 H (K64.take i) ∧ (∀ g, v2.ownBlock = some g → g ≠ w.heap.size ∧ g ≠ pg) ∧ OwnX lieU 49 wr w1.heap.size (.slice (some ⟨pg, 0, none⟩) 64 pc) H (primesN.take 64) ∧ Blk wr w.heap.size 59 (rowN (hsP i)) ∧ Below w.heap.size w wr) (fun _ v9 _ => (64 - intOf v9).toNat)
 case atStart => exact ⟨0, rfl, Nat.zero_le _, hO2, by simp [Value.ownBlock], hP, hB2, hb3⟩
 case round =>
  clear hO2 hP hB2 hb3 hp;obtain ⟨i, rfl, HI, hO, hne, hP, hB, hb⟩ := hrel;obtain ⟨A, c, rfl, hmc, hcm⟩ := hO.form;have hml : (K64.take i).length = i := by rw [List.length_take, K64_len]; have := HI.out; omega
  rw [hml] at hO hne ⊢;have HNE := Hh hne;clear hmc hcm hml hne
  by_cases hlt : (i : Int) < 64
  ·have hi : i < 64 := by omega
   have cp : wr.cell? ⟨pg, i, none⟩ = some (.int .u64 (getN P64 i : Int)) := by
    obtain ⟨g', e', h'⟩ := ownU_at hP (by decide)
    cases e'
    have h := h' i (by rw [show (primesN.take 64).length = 64 from rfl]; exact hi);rw [getN_eq (l := P64) (by rw [P64_len]; exact hi)]
    exact h
   have HC := Hh (const3_at hi);have HC2 := Hh (fun h : i < 8 => const2_at h);have HKS := Hh (take_snocN (l := K64) (i := i) (by rw [K64_len]; exact hi));obtain ⟨p, hp⟩ : ∃ p, getN P64 i = p := ⟨_, rfl⟩
   obtain ⟨kc, hkc⟩ : ∃ kc, getN K64 i = kc := ⟨_, rfl⟩
   rw [hp] at cp HC HC2;rw [hkc] at HC HKS;have FR := Hh (fun w => sha_fraction3 p kc HC.out.1 HC.out.2.2 HC.out.2.1 w);have HLT := Hh hlt;clear hp hkc hi;go_wp2_with fail
   refine (FR.out _).mono ?_
   rintro e w4 ⟨rfl, hb4⟩
   have hO4 := (hO.below hb4).alloc (.cells #[.int .u64 (kc : Int)] 49);have hP4 := (hP.below hb4).alloc (.cells #[.int .u64 (kc : Int)] 49);have hB4 := (hB.below hb4).alloc (.cells #[.int .u64 (kc : Int)] 49);have hb5 := (hb.trans (hb4.mono hb.size)).alloc (Nat.le_trans hb.size hb4.size) (.cells #[.int .u64 (kc : Int)] 49);have hlw : ∀ q, (Value.slice A i c).ownBlock = some q → w.heap.size ≤ q := fun q hq => (hO.lt q hq).1
   clear hO hP hB hb hb4 cp FR;go_wp2_with (at_builtin; refine stop_in ?_)
   refine OwnX.append rfl (.tmp 14) (.tmp 17) 58 rfl Tryz.underlying58 rfl (by omega) info_u64 rfl hO4 _ 1 _ [.int .u64 (kc : Int)] [kc] rfl rfl (RowC.one rfl) (Src.new _ _ _ _ rfl _ rfl) (by rw [List.length_take, K64_len]; simp; omega) hb5.size fun v' w6 hO6 hg6 hat6 => ?_
   have hb6 := below_of_grown hb5 hg6 hlw;have hP6 := hP4.kept hg6 (.inr (by intro hc; exact (HNE.out pg hc.symm).2 rfl));have hB6 := hB4.grown hg6 (by intro hc; exact (HNE.out _ hc).1 rfl);rw [← HKS.out] at hO6
   have HNE6 : Hid (∀ q, v'.ownBlock = some q → q ≠ w.heap.size ∧ q ≠ pg) := by
    intro q hq
    rcases hat6 with h | ⟨q', h, hlo⟩
    ·exact HNE.out q (h.symm.trans hq)
    ·rw [hq] at h
     cases h
     have h1 := hB4.lt;have h2 := (hP4.lt pg rfl).2;constructor <;> omega
   clear hO4 hP4 hB4 hb5 hg6 hat6 hlw
   by_cases h8 : (i : Int) < 8
   ·have FR2 := Hh (fun w => sha_fraction2 p (getN constH i) HC.out.1 (HC2.out (by omega)).2 (HC2.out (by omega)).1 w);have HS := Hh (hsP_lo (k := i) (by omega));have H8 := Hh h8;go_wp2_with fail
    refine (FR2.out _).mono ?_
    rintro e w7 ⟨rfl, hb7⟩
    have hO7 := hO6.below hb7;have hP7 := hP6.below hb7;have hB7 := hB6.below hb7;have hbx := hb6.trans (hb7.mono hb6.size);clear hO6 hP6 hB6 hb6 hb7 FR2;go_wp2_with (with_reducible refine stop_store ?_)
    refine wpList_store_cell rfl _ _ _ rfl rfl w.heap.size i (.int .u64 (getN constH i : Int)) rfl rfl _ _ hB7 size_u64c (by rw [rowN_size, hsP_len]; have := H8.out; omega) rfl fun w8 hB8 hg8 => ?_
    rw [rowN_set, ← HS.out] at hB8;have hO8 := hO7.kept hg8 (.inr (by intro hc; exact (HNE6.out _ hc).1 rfl));have hP8 := hP7.kept hg8 (.inr (by intro hc; have hc : pg = w.heap.size := Option.some.inj hc; have := (hP7.lt pg rfl).1; have := HPA.out; omega));have hb8 := hbx.grown hg8 hbx.size (by rintro q ⟨⟩; exact Nat.le_refl _);clear hO7 hP7 hB7 hbx hg8;go_wp2_with fail
    go_roundw
    case rel => exact ⟨i + 1, by go_num, by have := HLT.out; rw [Hid]; omega, hO8, HNE6.out, hP8, hB8, hb8⟩
    case measure => have := HLT.out; simp [intOf]; omega
   ·rw [← hsP_hi (k := i) (by omega)] at hB6;go_wp2_with fail
    go_roundw
    case rel => exact ⟨i + 1, by go_num, by have := HLT.out; rw [Hid]; omega, hO6, HNE6.out, hP6, hB6, hb6⟩
    case measure => have := HLT.out; simp [intOf]; omega
  ·obtain rfl : i = 64 := by have := HI.out; omega
   rw [hsP_64] at hB;rw [show K64.take 64 = K64 from rfl] at hO;rw [show ((64 : Nat) : Int) = 64 from rfl] at hlt ⊢;obtain ⟨b0, b1, b2, b3, b4, b5, b6, b7, hH8⟩ := list8n (show constH.length = 8 from rfl);have HH8 := Hh hH8;rw [hH8] at hB;clear hH8;go_upto_region 8 with fail
   refine wp_region_waysZ 3 (fun wx => wx.cell? ⟨w.heap.size, 0, none⟩ = some (.int .u64 (b0 : Int)) ∧ wx.cell? ⟨w.heap.size, 1, none⟩ = some (.int .u64 (b1 : Int)) ∧ wx.cell? ⟨w.heap.size, 2, none⟩ = some (.int .u64 (b2 : Int)) ∧ wx.cell? ⟨w.heap.size, 3, none⟩ = some (.int .u64 (b3 : Int)) ∧ wx.cell? ⟨w.heap.size, 4, none⟩ = some (.int .u64 (b4 : Int)) ∧ wx.cell? ⟨w.heap.size, 5, none⟩ = some (.int .u64 (b5 : Int)) ∧ wx.cell? ⟨w.heap.size, 6, none⟩ = some (.int .u64 (b6 : Int)) ∧ wx.cell? ⟨w.heap.size, 7, none⟩ = some (.int .u64 (b7 : Int))) (by kernel_rfl) (⟨hB.drew.cell 0 rfl, hB.drew.cell 1 rfl, hB.drew.cell 2 rfl, hB.drew.cell 3 rfl, hB.drew.cell 4 rfl, hB.drew.cell 5 rfl, hB.drew.cell 6 rfl, hB.drew.cell 7 rfl⟩) (fun hHeld => ?_)
   refine Zk 0 rfl hHeld ?_
   refine Zk 1 rfl hHeld ?_
   refine Zk 2 rfl hHeld ?_
   refine Zo 3 rfl fun K hK => ?_
   rw [if_pos (by rfl)]
   refine wp_store_item _ _ _ rfl w.heap.size (rowN [b0, b1, b2, b3, b4, b5, b6, b7]) rfl rfl _ _ hB.drew size_w8q rfl (rowN_one _) fun w9 hB9 hg9 => ?_
   refine hK.out _ _ (fun h => absurd h (by decide)) (fun _ => ?_)
   clear hK K
   try simp only [Act.put, zz1, zz2, zz3, zz4, zz5, zz6]
   refine WaysZ.done (by kernel_rfl) ?_
   have hb9 := hb.drew.grown hg9 hb.size (by rintro q ⟨⟩; exact Nat.le_refl _);have hO9 := OwnX.kept (w := wr.drew) (w' := w9) hO hg9 (.inr (by intro hc; exact (HNE.out _ hc).1 rfl));clear hHeld;go_wp2_with fail
   refine ret_tmp_row rfl rfl hB9 rfl rfl size_w8q rfl ?_
   exact ⟨A, c, by rw [HH8.out]; rfl, hO9, hb9⟩
end Go.Proofs.YtmacemcajlgddaaGreatDoor
