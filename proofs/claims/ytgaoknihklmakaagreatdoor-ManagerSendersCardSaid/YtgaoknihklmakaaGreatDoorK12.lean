/- squeezed. Walks: a group without a member, b -/
import Derived.Test.YtgaoknihklmakaaGreatDoorK11
import Derived.Test.YtgaoknihklmakaaGreatDoorK06
set_option linter.unusedVariables false
set_option linter.unusedSimpArgs false
set_option maxRecDepth 100000
set_option maxHeartbeats 25600000
namespace Go.Proofs.YtgaoknihklmakaaGreatDoor
open Go.RowKit
structure ES (W0 : World) (H : Snap) (bc pc : Array Value) (P : Nat) (v : Value) (l : List Mb) (w : World) (Hr : Snap) : Prop where
 base : GcS W0 H bc w Hr
 var : Blk w P 30 pc
 far : W0.heap.size + 2 ≤ P
 hP : Hr P = none
 own : OwnX lieM 39 w (W0.heap.size + 2) v Hr l
 ne : v.ownBlock ≠ some P
 apart : ∀ g, v.ownBlock = some g → Hr g = none
section
variable {W0 w w' : World} {H Hr Hs : Snap} {bc pc pc' : Array Value} {P Q : Nat} {v v' : Value} {l l' : List Mb}
theorem ES.grow (h : ES W0 H bc pc P v l w Hr) (k : Grows w Hr w' Hs) : ES W0 H bc pc P v l w' Hs :=
 ⟨h.base.grow k, h.var.below k.below, h.far, k.none h.hP h.var.lt, (h.own.below k.below).mono k.le, h.ne, fun g hg => k.none (h.apart g hg) (h.own.lt g hg).2⟩
theorem ES.drew (h : ES W0 H bc pc P v l w Hr) : ES W0 H bc pc P v l w.drew Hr := h.grow ((Grows.refl h.base.grows.holds).drew)
theorem ES.app (h : ES W0 H bc pc P v l w Hr) (hO : OwnX lieM 39 w' (W0.heap.size + 2) v' Hr l') (hg : w.grownBy w' v.ownBlock) (ha : At0 w v.ownBlock v'.ownBlock) : ES W0 H bc pc P v' l' w' Hr :=
 ⟨⟨h.base.grows.grownRow h.apart (fun g hg => by have := (h.own.lt g hg).1; omega) hg, h.base.box.grown hg (fun e => by have := (h.own.lt _ e).1; omega), h.base.res.grown hg (fun e => by have := (h.own.lt _ e).1; omega), h.base.hT⟩, h.var.grown hg h.ne, h.far, h.hP, hO, by
  rcases ha with e | ⟨g', e, hs⟩
  ·rw [e]; exact h.ne
  ·rw [e]
   intro e2
   injection e2 with e2
   have := h.var.lt
   omega, fun g hv => by
  rcases ha with e | ⟨g', e, hs⟩
  ·exact h.apart g (by rw [← e, hv])
  ·rw [hv] at e;injection e with e
   subst e
   exact h.base.grows.hidden hs⟩
theorem ES.set (h : ES W0 H bc pc P v l w Hr) (hB : Blk w' P 30 pc') (hg : w.grownBy w' (some P)) : ES W0 H bc pc' P v l w' Hr :=
 ⟨h.base.set h.far h.hP hg, hB, h.far, h.hP, h.own.kept hg (.inr h.ne), h.ne, h.apart⟩
theorem ES.up (h : ES W0 H bc pc P v l w Hr) : W0.heap.size + 2 ≤ w.heap.size := h.base.res.lt
theorem ES.freeze {A : Option Addr} {m c : Nat} (h : ES W0 H bc pc P (.slice A m c) l w Hr) : ∃ H', Grows W0 H w H' ∧ Hr.le H' ∧ m = l.length ∧ IsRow lieM H' A c l ∧ H' (W0.heap.size + 1) = none := by
 obtain ⟨H', hl, hh, hf, hn, hi⟩ := h.own.snap h.base.grows.holds (fun g hg => h.apart g (by cases A <;> simp_all [Value.ownBlock]))
 refine ⟨H', ⟨h.base.grows.below, h.base.grows.le.trans hl, hh, fun b o hb => ?_⟩, hl, hn, hi, ?_⟩
 ·rcases hf b o hb with h1 | h1
  ·exact h.base.grows.fresh b o h1
  ·exact .inr (by have := (h.own.lt b (by cases A <;> simp_all [Value.ownBlock])).1; omega)
 ·cases hz : H' (W0.heap.size + 1) with
  | none => rfl
  | some o =>
   rcases hf _ o hz with h1 | h1
   ·rw [h.base.hT] at h1; cases h1
   ·have := (h.own.lt (W0.heap.size + 1) (by cases A <;> simp_all [Value.ownBlock])).1
    omega
end
theorem manager_Exclude {sP : Mb → Bool} {H : Snap} (hS : SoundIs sP H) {g : Gp} {a : EAd} (hg : GpA H g a) (name : ByteArray) (w : World) (hH : Holds w H) :
  Calls Tryz.prog 13 #[.agg (gpQ g a), .string name] w (ExcOutP sP w H g name) := by
 have V : Hid (∀ wx, Holds wx H → Calls Tryz.prog 14 #[.agg (gpC a.ia g.id.length a.ic a.sa g.secret.length a.sc g.number a.ma g.members.length a.mc)] wx (ValidOutP sP wx g)) := fun wx hx => manager_Valid hS hg wx hx
 have C : Hid (∀ wx, Holds wx H → Calls Tryz.prog 20 #[.agg (gpC a.ia g.id.length a.ic a.sa g.secret.length a.sc g.number a.ma g.members.length a.mc)] wx (ClOut wx H g)) := fun wx hx => manager_cloned hg wx hx
 have HG := Hh hg;have HH := Hh hH;obtain ⟨il, hil⟩ : ∃ n, n = g.id.length := ⟨_, rfl⟩
 obtain ⟨sl, hsl⟩ : ∃ n, n = g.secret.length := ⟨_, rfl⟩
 obtain ⟨ml, hml⟩ : ∃ n, n = g.members.length := ⟨_, rfl⟩
 have HN := Hh (And.intro hil (And.intro hsl hml));have NM := Hh (fun wx hx => manager_named (n := ml) hg.members hml hg.small.2.2 name wx hx);show Calls Tryz.prog 13 #[.agg (gpC a.ia g.id.length a.ic a.sa g.secret.length a.sc g.number a.ma g.members.length a.mc), .string name] w (ExcOutP sP w H g name)
 rw [← hil, ← hsl, ← hml] at V C ⊢;have hB := (Blk.new w 30 (gpC a.ia il a.ic a.sa sl a.sc g.number a.ma ml a.mc)).alloc (.cells zeroG 30);have hT := Blk.new (w.alloc (.cells (gpC a.ia il a.ic a.sa sl a.sc g.number a.ma ml a.mc) 30)) 30 zeroG;rw [size_alloc] at hT;have hS : GcS w H (gpC a.ia il a.ic a.sa sl a.sc g.number a.ma ml a.mc) _ H := ⟨((Grows.refl hH).alloc (.cells (gpC a.ia il a.ic a.sa sl a.sc g.number a.ma ml a.mc) 30)).alloc (.cells zeroG 30), hB, hT, hH.none_of_ge (by omega)⟩
 have BAD : Hid (∀ (wx : World) (n : Int), Below w.heap.size w wx → ExcP sP g name n nilG → ExcOutP sP w H g name (.returned (.tuple #[.agg zeroG, .int .i64 n])) wx) := fun wx n h2 h3 => ⟨nilG, ⟨none, 0, none, 0, none, 0⟩, H, n, rfl, Grows.of_below HH.out h2, zeroGA H, h3⟩
 have g0 := hS.box.cell 0 rfl;have g1 := hS.box.cell 1 rfl;have g2 := hS.box.cell 2 rfl;have g3 := hS.box.cell 3 rfl;clear hil hsl hml hg hH hB hT;go_enter Tryz.func13, Tryz.ntmps13
 go_upto_region 1 with fail
 generalize (w.alloc (.cells (gpC a.ia il a.ic a.sa sl a.sc g.number a.ma ml a.mc) 30)).alloc (.cells zeroG 30) = w1 at hS g0 g1 g2 g3 ⊢
 go_wp2_with fail
 refine (V.out _ hS.grows.holds).mono ?_
 rintro e w2 ⟨b2, rfl, ha2, hb2⟩
 replace hS := hS.grow (Grows.of_below hS.grows.holds hb2);have HA := Hh ha2;clear hb2 ha2 V g0 g1 g2 g3
 cases b2 with
 | false =>
  have NO : Hid (ExcP sP g name 1 nilG) := .arg fun h => by have h2 := HA.out.2 h; cases h2
  go_wp2_with (with_reducible refine stop_store ?_)
  refine wpList_store_item rfl _ _ _ rfl rfl _ _ rfl rfl _ _ hS.res size_group rfl (one4g _ _ _ _ rfl rfl rfl rfl) fun w9 hT9 hg9 => ?_
  have hb9 := hS.grows.below.grown hg9 hS.grows.below.size (by rintro q ⟨⟩; omega);clear hS hg9;go_wp2_with fail
  exact ret_row_tmp rfl rfl hT9 rfl rfl size_group rfl (BAD.out _ _ hb9 NO.out)
 | true =>
 simp only [Bool.not_true]
 have GD := Hh (HA.out.1 rfl);clear HA;have g3 := hS.box.cell 3 rfl;go_wp2_with fail
 refine (NM.out _ hS.grows.holds).mono ?_
 rintro e w3 ⟨r, rfl, hb3, hr⟩
 replace hS := hS.grow (Grows.of_below hS.grows.holds hb3);clear hb3 g3 NM
 rcases hr with ⟨rfl, hno⟩ | ⟨i, rfl, hi, hnm⟩
 ·have NO : Hid (ExcP sP g name 38 nilG) := .gone GD.out hno;clear hno;go_wp2_with (with_reducible refine stop_store ?_)
  refine wpList_store_item rfl _ _ _ rfl rfl _ _ rfl rfl _ _ hS.res size_group rfl (one4g _ _ _ _ rfl rfl rfl rfl) fun w9 hT9 hg9 => ?_
  have hb9 := hS.grows.below.grown hg9 hS.grows.below.size (by rintro q ⟨⟩; omega);clear hS hg9;go_wp2_with fail
  exact ret_row_tmp rfl rfl hT9 rfl rfl size_group rfl (BAD.out _ _ hb9 NO.out)
 have HI : Hid (∃ h : i < g.members.length, g.members[i].name = name) := ⟨hi, hnm⟩
 have HE : Hid (∃ m ∈ g.members, m.name = name) := ⟨_, List.getElem_mem hi, hnm⟩
 have hi0 : ¬ (i : Int) < 0 := by omega
 have g2 := hS.box.cell 2 rfl;clear hi hnm
 by_cases hx : g.number = 65535
 ·obtain ⟨e1, e2, e3⟩ := num_eq_facts hx;have NO : Hid (ExcP sP g name 8 nilG) := .limit GD.out HE.out hx;clear hx;go_wp2_with (with_reducible refine stop_store ?_)
  refine wpList_store_item rfl _ _ _ rfl rfl _ _ rfl rfl _ _ hS.res size_group rfl (one4g _ _ _ _ rfl rfl rfl rfl) fun w9 hT9 hg9 => ?_
  have hb9 := hS.grows.below.grown hg9 hS.grows.below.size (by rintro q ⟨⟩; omega);clear hS hg9;go_wp2_with fail
  exact ret_row_tmp rfl rfl hT9 rfl rfl size_group rfl (BAD.out _ _ hb9 NO.out)
 obtain ⟨e1, e2, e3⟩ := num_ne_facts hx;have HX := Hh hx;clear hx;go_upto_region 8 with fail
 clear e1 e2 e3 g2 hi0;have g0 := hS.box.cell 0 rfl;have g1 := hS.box.cell 1 rfl;have g2 := hS.box.cell 2 rfl;have g3 := hS.box.cell 3 rfl;go_wp2_with fail
 refine (C.out _ hS.grows.holds).mono ?_
 rintro e w4 ⟨A, c, B, d, v, Hr, rfl, hG4, hI4, hJ4, hO4, ha4⟩
 have HIJ := Hh (And.intro hI4 hJ4);obtain ⟨VA, vc, rfl, hvc, hjk⟩ := hO4.form;rw [← HN.out.1, ← HN.out.2.1, ← HN.out.2.2];rw [← HN.out.2.2] at hvc hO4 ha4
 have hE : ES w H (gpC a.ia il a.ic a.sa sl a.sc g.number a.ma ml a.mc) (gpC A il c B sl d g.number VA ml vc) w4.heap.size (.slice VA ml vc) g.members (w4.alloc (.cells (gpC A il c B sl d g.number VA ml vc) 30)) Hr := by
  have h1 := hS.grow hG4
  exact ⟨h1.alloc _, Blk.new _ _ _, h1.res.lt, hG4.holds.none_of_ge (Nat.le_refl _), (hO4.more hS.res.lt).alloc _, fun e => by have := (hO4.lt _ e).2; omega, ha4⟩
 obtain ⟨P, hPe⟩ : ∃ P, w4.heap.size = P := ⟨_, rfl⟩
 obtain ⟨w5, hw5⟩ : ∃ w5, w4.alloc (.cells (gpC A il c B sl d g.number VA ml vc) 30) = w5 := ⟨_, rfl⟩
 rw [hPe, hw5] at hE;have HW := Hh (And.intro hPe hw5);have kw : IntKind.i64.wrap (g.number + 1) = g.number + 1 := IntWalk.i64_in _ (by have h1 := GD.out.num0; have h2 := GD.out.num1; omega);clear hPe hw5 hI4 hJ4 hO4 ha4 hG4 g0 g1 g2 g3 C hS hjk;go_upto_region 9 with fail
 try rw [HW.out.1]
 try rw [HW.out.2]
 clear HW;have p2 := hE.var.cell 2 rfl;go_wp2_with (with_reducible refine stop_store ?_)
 refine wpList_store_cell rfl _ _ _ rfl rfl P 2 (.int .i64 (g.number + 1)) rfl rfl _ _ hE.var (by kernel_rfl) (by simp) rfl fun w6 hP6 hg6 => ?_
 replace hE := hE.set (pc' := gpC A il c B sl d (g.number + 1) VA ml vc) hP6 hg6;clear p2 hP6 hg6 kw;obtain ⟨num, hnum⟩ : ∃ num, g.number + 1 = num := ⟨_, rfl⟩
 rw [hnum] at hE ⊢;have HNUM : Hid (num = g.number + 1 ∧ -9223372036854775808 ≤ num ∧ num ≤ 9223372036854775807) := by have h1 := GD.out.num0; have h2 := GD.out.num1; rw [Hid]; omega
 clear hnum;go_upto_region 10 with fail
 have him : i < ml := by obtain ⟨h, _⟩ := HI.out; have := HN.out.2.2; omega
 have k1 : (i : Int) ≤ (vc : Int) := by omega
 have k2 : (i : Int) + 1 ≤ (ml : Int) := by omega
 have k3 : IntKind.i64.wrap ((i : Int) + 1) = (i : Int) + 1 := IntWalk.i64_in _ (by have := HG.out.small.2.2; have := HN.out.2.2; omega);have k4 : (ml : Int) ≤ (vc : Int) := by omega
 have k5 : (0 : Int) ≤ (i : Int) := by omega
 have k6 : (0 : Int) ≤ (i : Int) + 1 := by omega
 have HIM := Hh him;have HVC := Hh hvc;obtain ⟨gb, rfl, hOt, ds, hds, hsr⟩ := hE.own.parts (i := i) (by have := HN.out.2.2; omega);clear him hvc hOt hds hsr ds;replace hE := hE.drew;obtain ⟨gb2, hgb, hOt, ds, hds, hsr⟩ := hE.own.parts (i := i) (by have := HN.out.2.2; have := HIM.out; omega)
 cases hgb
 have HDS := Hh hds
 have HSR : Hid (Src w6.drew (if vc = i + 1 then some ⟨gb, 0, none⟩ else some ⟨gb, (i + 1) * 7, none⟩) ds) := by
  by_cases e : vc = i + 1
  ·have h0 : ds = [] := List.length_eq_zero_iff.1 (by rw [hds.len, List.length_drop, show g.members.length - (i + 1) = 0 by have := HN.out.2.2; have := HVC.out; omega, Nat.zero_mul]);rw [if_pos e, h0]
   exact Src.nil _ _
  ·rw [if_neg e]
   exact hsr
 have HOT := Hh hOt;clear hds hsr hOt
 refine wp_region_waysZ 11 (fun wx => wx.cell? ⟨P, 3, none⟩ = some (.slice (some ⟨gb, 0, none⟩) ml vc)) (by kernel_rfl) (hE.var.cell 3 rfl) (fun hHeld => ?_)
 refine Zk 0 rfl hHeld ?_
 refine Zk 1 rfl hHeld ?_
 refine Zk 2 rfl hHeld ?_
 refine Zk 3 rfl hHeld ?_
 refine Zk 4 rfl hHeld ?_
 refine Zk 5 rfl hHeld ?_
 refine Zk 6 rfl hHeld ?_
 refine Zk 7 rfl hHeld ?_
 refine Zk 8 rfl hHeld ?_
 refine Zo 9 rfl fun K hK => ?_
 refine OwnX.append_wpM (v := .slice (some ⟨gb, 0, none⟩) i vc) (l := g.members.take i) (.tmp 32) (.tmp 37) 28 rfl Tryz.underlying28 rfl (by omega) info_memM rfl HOT.out (if vc = i + 1 then some ⟨gb, 0, none⟩ else some ⟨gb, (i + 1) * 7, none⟩) (ml - (i + 1)) _ ds (g.members.drop (i + 1)) rfl (by rw [List.length_drop, HN.out.2.2]) HDS.out HSR.out (by have h1 := HN.out.2.2; have := HG.out.small.2.2; rw [List.length_take, List.length_drop]; omega) hE.up fun v8 w8 hO8 hg8 hat8 => ?_
 have hE := hE.app hO8 hg8 hat8;obtain ⟨A8, c8, rfl, hjk⟩ := hO8.form;obtain ⟨l8, hl8⟩ : ∃ l8, g.members.take i ++ g.members.drop (i + 1) = l8 := ⟨_, rfl⟩
 rw [hl8] at hE;rw [hl8];obtain ⟨m8, hm8⟩ : ∃ k, l8.length = k := ⟨_, rfl⟩
 have HL8 := Hh (And.intro hl8 hm8);rw [hm8] at hE;rw [hm8];clear hO8 hg8 hat8 hjk hm8 hl8;go_simp
 refine Ko hK ?_ fun hHeld => ?_
 ·exact hE.var.cell 3 rfl
 clear hK K
 refine Zk 10 rfl hHeld ?_
 refine Zo 11 rfl fun K hK => ?_
 refine wp_store_cell _ _ _ rfl P 3 (.slice A8 m8 c8) rfl rfl _ _ hE.var (by kernel_rfl) (by simp) rfl fun w11 hP11 hg11 => ?_
 have hF := hE.set (pc' := gpC A il c B sl d num A8 m8 c8) hP11 hg11;clear hP11 hg11;go_simp
 refine Kz hK ?_
 clear hK K
 refine WaysZ.done (by kernel_rfl) ?_
 clear hHeld HSR HOT HDS
 generalize (if vc = i + 1 then (some (⟨gb, 0, none⟩ : Addr)) else some ⟨gb, (i + 1) * 7, none⟩) = AD
 clear hE k1 k2 k3 k4 k5 k6;obtain ⟨H9, hG9, hle9, hm9, hR9, hn9⟩ := hF.freeze;have p0 := hF.var.cell 0 rfl;have p1 := hF.var.cell 1 rfl;have p2 := hF.var.cell 2 rfl;have p3 := hF.var.cell 3 rfl;have hT := hF.base.res;have HR9 := Hh (And.intro hm9 (And.intro hR9 hle9));clear hF hm9 hR9 hle9;go_wp2_with (with_reducible refine stop_store ?_)
 refine wpList_store_item rfl _ _ _ rfl rfl _ _ rfl rfl _ _ hT size_group rfl (one4g _ _ _ _ rfl rfl rfl rfl) fun wz hTz hgz => ?_
 have hGz := hG9.grownOwn hn9 (by omega) hgz;clear hT hG9 hgz p0 p1 p2 p3;go_wp2_with fail
 refine ret_row_tmp rfl rfl hTz rfl rfl size_group rfl ?_
 have hl8 : l8 = g.members.filter fun m => decide (m.name ≠ name) := by obtain ⟨h1, h2⟩ := HI.out; rw [← HL8.out.1]; exact cut_filter GD.out.unl h1 h2
 exact ⟨excG g name, ⟨A, c, B, d, A8, c8⟩, H9, 0, by rw [show excG g name = ⟨g.id, g.secret, num, l8⟩ by rw [excG, hl8, HNUM.out.1]]; show Ending.returned _ = Ending.returned (.tuple #[.agg (gpC A g.id.length c B g.secret.length d num A8 l8.length c8), _]); rw [HL8.out.2, ← HN.out.1, ← HN.out.2.1]; rfl, hGz, ⟨HIJ.out.1.mono HR9.out.2.2, HIJ.out.2.mono HR9.out.2.2, by show _ ≤ g.number + 1 ∧ g.number + 1 ≤ _; have := HNUM.out; omega, by rw [show (excG g name).members = l8 from hl8.symm]; exact HR9.out.2.1, HG.out.small.1, HG.out.small.2.1, by rw [show (excG g name).members = l8 from hl8.symm, ← HL8.out.1, List.length_append, List.length_take, List.length_drop]; have := HG.out.small.2.2; omega⟩, .ok GD.out HE.out HX.out⟩
theorem results_cell_tmp3 {fn : Func} {p u v : Tmp} {ty : TypeId} (h : fn.results = #[.cell p ty, .tmp u, .tmp v]) (tmps : Array Value) (P : Program) (w : World) :
  (results fn tmps).run P w =
   ((asAddr (tmps.getD p undef)).run P w).andThen fun a w₁ => ((loadVar ty a).run P w₁).andThen fun x w₂ => .ok (.tuple #[x, tmps.getD u undef, tmps.getD v undef]) w₂ := by
 simp only [results, h]
 simp [Sem.run_bind, Result.andThen]
theorem ret_row_tmp3 {fn : Func} {p u v : Tmp} {ty : TypeId} {a : Act} {w : World} {R : Ending → World → Prop} {g : Nat} {t : TypeId} {cs : Array Value} {d : TypeDesc} (h : fn.results = #[.cell p ty, .tmp u, .tmp v]) (hp : a.tmps.getD p undef = .pointer (some ⟨g, 0, none⟩)) (hg : Blk w g t cs)
  (hd : (match d with | .struct _ | .array _ _ => true | _ => false) = true) (hu : Tryz.prog.underlying ty = some d) (hi : (Tryz.prog.info? ty).map (·.size) = some cs.size)
  (hdf : a.defers = []) (hR : R (.returned (.tuple #[.agg cs, a.tmps.getD u undef, a.tmps.getD v undef])) w) : bodyPost Tryz.prog fn R .ret a w := by
 refine bodyPost_ret (v := .tuple #[.agg cs, a.tmps.getD u undef, a.tmps.getD v undef]) ?_ hdf hR
 rw [results_cell_tmp3 h, hp];have hd' := run_loadVar_row (P := Tryz.prog) w g t ty cs (0, 0) d hg hu (by cases d <;> first | exact hd | rfl | cases hd) hi
 simp [asAddr, hd', Result.andThen]
theorem cell_belowM {w w' : World} {a : Addr} {v : Value} (h : w.cell? a = some v) (hb : Below w.heap.size w w') : w'.cell? a = some v := (hb.cell (World.block_lt_of_cell? w _ h)).trans h
def senB (m : Mb) : UInt8 := m.sender.headD 0
theorem senB_is {m : Mb} (h : m.sender.length = 1) : m.sender = [senB m] := by
 unfold senB
 cases hs : m.sender with
 | nil => rw [hs] at h; cases h
 | cons x t =>
  rw [hs] at h
  cases t with
  | nil => rfl
  | cons y t => simp at h
theorem FreeB.members {l : List Mb} {n : UInt8} (hl : ∀ m ∈ l, m.sender.length = 1) (h : FreeB (l.map senB) n) : FreeP l n :=
 ⟨fun m hm e => h.free (List.mem_map.2 ⟨m, hm, by rw [senB, e]; rfl⟩), fun k hk => by
  obtain ⟨m, hm, e⟩ := List.mem_map.1 (h.least k hk)
  exact ⟨m, hm, by rw [senB_is (hl m hm), e]⟩⟩
structure AM (W0 : World) (gc mc : Array Value) (w : World) : Prop where
 below : Below W0.heap.size W0 w
 grp : Blk w W0.heap.size 30 gc
 mem : Blk w (W0.heap.size + 1) 39 mc
 res : Blk w (W0.heap.size + 2) 30 zeroG
def AEx (W0 : World) (U : Nat) (gc mc : Array Value) (l : List Mb) (w : World) : Prop := ∃ vs, SetIs vs (l.map senB) ∧ Blk w U 52 (rowN vs) ∧ AM W0 gc mc w
structure FS (W0 : World) (H : Snap) (U : Nat) (uc mc pc : Array Value) (P : Nat) (v : Value) (l : List Mb) (w : World) (Hr : Snap) : Prop where
 grows : Grows W0 H w Hr
 mem : Blk w (W0.heap.size + 1) 39 mc
 res : Blk w (W0.heap.size + 2) 30 zeroG
 used : Blk w U 52 uc
 farU : W0.heap.size + 3 ≤ U
 var : Blk w P 30 pc
 far : U + 1 ≤ P
 hM : Hr (W0.heap.size + 1) = none
 hT : Hr (W0.heap.size + 2) = none
 hP : Hr P = none
 own : OwnX lieM 39 w (U + 1) v Hr l
 ne : v.ownBlock ≠ some P
 apart : ∀ g, v.ownBlock = some g → Hr g = none
section
variable {W0 w w' : World} {H Hr Hs : Snap} {gc mc mc' pc pc' uc : Array Value} {P U : Nat} {v v' : Value} {l l' : List Mb}
theorem AM.belowX (h : AM W0 gc mc w) (k : Below w.heap.size w w') : AM W0 gc mc w' := ⟨h.below.trans (k.mono h.below.size), h.grp.below k, h.mem.below k, h.res.below k⟩
theorem AM.alloc (h : AM W0 gc mc w) (o : Obj) : AM W0 gc mc (w.alloc o) := h.belowX (below_box w o)
theorem AM.setU (h : AM W0 gc mc w) (hU : W0.heap.size + 3 ≤ U) (hg : w.grownBy w' (some U)) : AM W0 gc mc w' :=
 ⟨h.below.grown hg h.below.size (by rintro q ⟨⟩; omega), h.grp.gr hg (by omega), h.mem.gr hg (by omega), h.res.gr hg (by omega)⟩
theorem FS.grow (h : FS W0 H U uc mc pc P v l w Hr) (k : Grows w Hr w' Hs) : FS W0 H U uc mc pc P v l w' Hs :=
 ⟨h.grows.trans k, h.mem.below k.below, h.res.below k.below, h.used.below k.below, h.farU, h.var.below k.below, h.far, k.none h.hM h.mem.lt, k.none h.hT h.res.lt, k.none h.hP h.var.lt, (h.own.below k.below).mono k.le, h.ne, fun g hg => k.none (h.apart g hg) (h.own.lt g hg).2⟩
theorem FS.alloc (h : FS W0 H U uc mc pc P v l w Hr) (o : Obj) : FS W0 H U uc mc pc P v l (w.alloc o) Hr := h.grow ((Grows.refl h.grows.holds).alloc o)
theorem FS.drew (h : FS W0 H U uc mc pc P v l w Hr) : FS W0 H U uc mc pc P v l w.drew Hr := h.grow ((Grows.refl h.grows.holds).drew)
theorem FS.setM (h : FS W0 H U uc mc pc P v l w Hr) (hB : Blk w' (W0.heap.size + 1) 39 mc') (hg : w.grownBy w' (some (W0.heap.size + 1))) : FS W0 H U uc mc' pc P v l w' Hr :=
 ⟨h.grows.grownOwn h.hM (by omega) hg, hB, h.res.gr hg (by omega), h.used.grown hg (by intro e; injection e with e; have := h.farU; omega), h.farU, h.var.grown hg (by intro e; injection e with e; have := h.far; have := h.farU; omega), h.far, h.hM, h.hT, h.hP, h.own.kept hg (.inr (by intro e; have := (h.own.lt _ e).1; have := h.farU; omega)), h.ne, h.apart⟩
theorem FS.setP (h : FS W0 H U uc mc pc P v l w Hr) (hB : Blk w' P 30 pc') (hg : w.grownBy w' (some P)) : FS W0 H U uc mc pc' P v l w' Hr :=
 ⟨h.grows.grownOwn h.hP (by have := h.far; have := h.farU; omega) hg, h.mem.grown hg (by intro e; injection e with e; have := h.far; have := h.farU; omega), h.res.grown hg (by intro e; injection e with e; have := h.far; have := h.farU; omega), h.used.grown hg (by intro e; injection e with e; have := h.far; omega), h.farU, hB, h.far, h.hM, h.hT, h.hP, h.own.kept hg (.inr h.ne), h.ne, h.apart⟩
theorem FS.app (h : FS W0 H U uc mc pc P v l w Hr) (hO : OwnX lieM 39 w' (U + 1) v' Hr l') (hg : w.grownBy w' v.ownBlock) (ha : At0 w v.ownBlock v'.ownBlock) : FS W0 H U uc mc pc P v' l' w' Hr :=
 ⟨h.grows.grownRow h.apart (fun g hg => by have := (h.own.lt g hg).1; have := h.farU; omega) hg, h.mem.grown hg (fun e => by have := (h.own.lt _ e).1; have := h.farU; omega), h.res.grown hg (fun e => by have := (h.own.lt _ e).1; have := h.farU; omega), h.used.grown hg (fun e => by have := (h.own.lt _ e).1; omega), h.farU, h.var.grown hg h.ne, h.far, h.hM, h.hT, h.hP, hO, by
  rcases ha with e | ⟨g', e, hs⟩
  ·rw [e]; exact h.ne
  ·rw [e]
   intro e2
   injection e2 with e2
   have := h.var.lt
   omega, fun g hv => by
  rcases ha with e | ⟨g', e, hs⟩
  ·exact h.apart g (by rw [← e, hv])
  ·rw [hv] at e;injection e with e
   subst e
   exact h.grows.hidden hs⟩
theorem FS.up (h : FS W0 H U uc mc pc P v l w Hr) : U + 1 ≤ w.heap.size := h.used.lt
theorem FS.freeze {A : Option Addr} {m c : Nat} (h : FS W0 H U uc mc pc P (.slice A m c) l w Hr) : ∃ H', Grows W0 H w H' ∧ Hr.le H' ∧ m = l.length ∧ IsRow lieM H' A c l ∧ H' (W0.heap.size + 2) = none := by
 obtain ⟨H', hl, hh, hf, hn, hi⟩ := h.own.snap h.grows.holds (fun g hg => h.apart g (by cases A <;> simp_all [Value.ownBlock]))
 refine ⟨H', ⟨h.grows.below, h.grows.le.trans hl, hh, fun b o hb => ?_⟩, hl, hn, hi, ?_⟩
 ·rcases hf b o hb with h1 | h1
  ·exact h.grows.fresh b o h1
  ·exact .inr (by have := (h.own.lt b (by cases A <;> simp_all [Value.ownBlock])).1; have := h.farU; omega)
 ·cases hz : H' (W0.heap.size + 2) with
  | none => rfl
  | some o =>
   rcases hf _ o hz with h1 | h1
   ·rw [h.hT] at h1; cases h1
   ·have := (h.own.lt (W0.heap.size + 2) (by cases A <;> simp_all [Value.ownBlock])).1;have := h.farU
    omega
end
theorem manager_Admit {sP : Mb → Bool} {H : Snap} (hS : SoundIs sP H) {g : Gp} {a : EAd} (hg : GpA H g a) {m : Mb} {b : MAd} (hm : MemA H m b) (w : World) (hH : Holds w H) :
  Calls Tryz.prog 11 #[.agg (gpQ g a), .agg (memQ m b)] w (AdmOutP sP w H g m) := by
 have V : Hid (∀ wx, Holds wx H → Calls Tryz.prog 14 #[.agg (gpC a.ia g.id.length a.ic a.sa g.secret.length a.sc g.number a.ma g.members.length a.mc)] wx (ValidOutP sP wx g)) := fun wx hx => manager_Valid hS hg wx hx
 have C : Hid (∀ wx, Holds wx H → Calls Tryz.prog 20 #[.agg (gpC a.ia g.id.length a.ic a.sa g.secret.length a.sc g.number a.ma g.members.length a.mc)] wx (ClOut wx H g)) := fun wx hx => manager_cloned hg wx hx
 have SD : Hid (∀ wx, Holds wx H → Calls Tryz.prog 18 #[.agg (memC m.name m.roles m.since b.sa m.sender.length b.sc b.ca m.cred.length b.cc b.ha m.share.length b.hc b.wa m.wrap.length b.wc)] wx fun e w' => e = .returned (.bool (sP m)) ∧ Below wx.heap.size wx w') := fun wx hx => hS H (Snap.le.refl H) m b wx hm hx
 have MM : Hid (∀ wx K, H.le K → Holds wx K → Calls Tryz.prog 21 #[.agg (memC m.name m.roles m.since b.sa m.sender.length b.sc b.ca m.cred.length b.cc b.ha m.share.length b.hc b.wa m.wrap.length b.wc)] wx (MemOut wx K m)) := fun wx K hl hx => manager_member (hm.mono hl) wx hx
 have HG := Hh hg;have HM := Hh hm;have HH := Hh hH;obtain ⟨il, hil⟩ : ∃ n, n = g.id.length := ⟨_, rfl⟩
 obtain ⟨sl, hsl⟩ : ∃ n, n = g.secret.length := ⟨_, rfl⟩
 obtain ⟨ml, hml⟩ : ∃ n, n = g.members.length := ⟨_, rfl⟩
 obtain ⟨ls, hls⟩ : ∃ n, n = m.sender.length := ⟨_, rfl⟩
 obtain ⟨lc, hlc⟩ : ∃ n, n = m.cred.length := ⟨_, rfl⟩
 obtain ⟨lh, hlh⟩ : ∃ n, n = m.share.length := ⟨_, rfl⟩
 obtain ⟨lw, hlw⟩ : ∃ n, n = m.wrap.length := ⟨_, rfl⟩
 have HN := Hh (And.intro hil (And.intro hsl hml));have HL := Hh (And.intro hls (And.intro hlc (And.intro hlh hlw)));show Calls Tryz.prog 11 #[.agg (gpC a.ia g.id.length a.ic a.sa g.secret.length a.sc g.number a.ma g.members.length a.mc), .agg (memC m.name m.roles m.since b.sa m.sender.length b.sc b.ca m.cred.length b.cc b.ha m.share.length b.hc b.wa m.wrap.length b.wc)] w (AdmOutP sP w H g m)
 rw [← hil, ← hsl, ← hml] at V C ⊢;rw [← hls, ← hlc, ← hlh, ← hlw] at SD MM ⊢
 have hA : AM w (gpC a.ia il a.ic a.sa sl a.sc g.number a.ma ml a.mc) (memC m.name m.roles m.since b.sa ls b.sc b.ca lc b.cc b.ha lh b.hc b.wa lw b.wc) (((w.alloc (.cells (gpC a.ia il a.ic a.sa sl a.sc g.number a.ma ml a.mc) 30)).alloc (.cells (memC m.name m.roles m.since b.sa ls b.sc b.ca lc b.cc b.ha lh b.hc b.wa lw b.wc) 39)).alloc (.cells zeroG 30)) := by
  have h1 := ((Blk.new w 30 (gpC a.ia il a.ic a.sa sl a.sc g.number a.ma ml a.mc)).alloc (.cells (memC m.name m.roles m.since b.sa ls b.sc b.ca lc b.cc b.ha lh b.hc b.wa lw b.wc) 39)).alloc (.cells zeroG 30);have h2 := (Blk.new (w.alloc (.cells (gpC a.ia il a.ic a.sa sl a.sc g.number a.ma ml a.mc) 30)) 39 (memC m.name m.roles m.since b.sa ls b.sc b.ca lc b.cc b.ha lh b.hc b.wa lw b.wc)).alloc (.cells zeroG 30);have h3 := Blk.new ((w.alloc (.cells (gpC a.ia il a.ic a.sa sl a.sc g.number a.ma ml a.mc) 30)).alloc (.cells (memC m.name m.roles m.since b.sa ls b.sc b.ca lc b.cc b.ha lh b.hc b.wa lw b.wc) 39)) 30 zeroG;rw [size_alloc] at h2;rw [size_alloc, size_alloc] at h3;have hb1 := below_box w (.cells (gpC a.ia il a.ic a.sa sl a.sc g.number a.ma ml a.mc) 30);have hb2 := hb1.alloc hb1.size (.cells (memC m.name m.roles m.since b.sa ls b.sc b.ca lc b.cc b.ha lh b.hc b.wa lw b.wc) 39)
  exact ⟨hb2.alloc hb2.size (.cells zeroG 30), h1, h2, h3⟩
 have hsz : (((w.alloc (.cells (gpC a.ia il a.ic a.sa sl a.sc g.number a.ma ml a.mc) 30)).alloc (.cells (memC m.name m.roles m.since b.sa ls b.sc b.ca lc b.cc b.ha lh b.hc b.wa lw b.wc) 39)).alloc (.cells zeroG 30)).heap.size = w.heap.size + 3 := by simp only [size_alloc]
 have BAD : Hid (∀ (wx : World) (n : Int), Below w.heap.size w wx → AdmP sP g m n nilG [] → AdmOutP sP w H g m (.returned (.tuple #[.agg zeroG, .slice none 0 0, .int .i64 n])) wx) := fun wx n h2 h3 => ⟨nilG, ⟨none, 0, none, 0, none, 0⟩, H, none, 0, [], n, rfl, Grows.of_below HH.out h2, zeroGA H, IsBytes.nil _, h3⟩
 clear hil hsl hml hls hlc hlh hlw hg hm hH hS;go_enter Tryz.func11, Tryz.ntmps11
 go_upto_region 1 with fail
 generalize ((w.alloc (.cells (gpC a.ia il a.ic a.sa sl a.sc g.number a.ma ml a.mc) 30)).alloc (.cells (memC m.name m.roles m.since b.sa ls b.sc b.ca lc b.cc b.ha lh b.hc b.wa lw b.wc) 39)).alloc (.cells zeroG 30) = w1 at hA hsz ⊢
 have HSZ := Hh hsz;clear hsz;have g0 := hA.grp.cell 0 rfl;have g1 := hA.grp.cell 1 rfl;have g2 := hA.grp.cell 2 rfl;have g3 := hA.grp.cell 3 rfl;go_wp2_with fail
 refine (V.out _ (HH.out.below hA.below (Nat.le_refl _))).mono ?_
 rintro e w2 ⟨b2, rfl, ha2, hb2⟩
 replace hA := hA.belowX hb2;have HA := Hh ha2;clear hb2 ha2 V g0 g1 g2 g3 HSZ
 cases b2 with
 | false =>
  have NO : Hid (AdmP sP g m 1 nilG []) := .arg fun h => by have h2 := HA.out.2 h.1; cases h2
  go_wp2_with (with_reducible refine stop_store ?_)
  refine wpList_store_item rfl _ _ _ rfl rfl _ _ rfl rfl _ _ hA.res size_group rfl (one4g _ _ _ _ rfl rfl rfl rfl) fun w9 hT9 hg9 => ?_
  have hb9 := hA.below.grown hg9 hA.below.size (by rintro q ⟨⟩; omega);clear hA hg9;go_wp2_with fail
  exact ret_row_tmp3 rfl rfl hT9 rfl rfl size_group rfl (BAD.out _ _ hb9 NO.out)
 | true =>
 have GD := Hh (HA.out.1 rfl);clear HA
 simp only [Bool.not_true]
 have m0 := hA.mem.cell 0 rfl;have m1 := hA.mem.cell 1 rfl;have m2 := hA.mem.cell 2 rfl;have m3 := hA.mem.cell 3 rfl;have m4 := hA.mem.cell 4 rfl;have m5 := hA.mem.cell 5 rfl;have m6 := hA.mem.cell 6 rfl;go_wp2_with fail
 refine (SD.out _ (HH.out.below hA.below (Nat.le_refl _))).mono ?_
 rintro e w3 ⟨rfl, hb3⟩
 replace hA := hA.belowX hb3;clear hb3 m0 m1 m2 m3 m4 m5 m6 SD;obtain ⟨b3, hb3⟩ : ∃ b, sP m = b := ⟨_, rfl⟩
 have HB3 := Hh hb3;rw [hb3];clear hb3
 cases b3 with
 | false =>
  have NO : Hid (AdmP sP g m 1 nilG []) := .arg fun h => by have h2 := h.2.1; rw [HB3.out] at h2; cases h2
  go_wp2_with (with_reducible refine stop_store ?_)
  refine wpList_store_item rfl _ _ _ rfl rfl _ _ rfl rfl _ _ hA.res size_group rfl (one4g _ _ _ _ rfl rfl rfl rfl) fun w9 hT9 hg9 => ?_
  have hb9 := hA.below.grown hg9 hA.below.size (by rintro q ⟨⟩; omega);clear hA hg9;go_wp2_with fail
  exact ret_row_tmp3 rfl rfl hT9 rfl rfl size_group rfl (BAD.out _ _ hb9 NO.out)
 | true =>
 simp only [Bool.not_true]
 have m5 := hA.mem.cell 5 rfl
 by_cases c16 : (lw : Int) = 16
 case neg =>
  obtain ⟨e1, e2, e3⟩ := num_ne_facts c16;have NO : Hid (AdmP sP g m 1 nilG []) := .arg fun h => by have h2 := h.2.2; have := HL.out.2.2.2; omega
  clear c16;go_wp2_with (with_reducible refine stop_store ?_)
  refine wpList_store_item rfl _ _ _ rfl rfl _ _ rfl rfl _ _ hA.res size_group rfl (one4g _ _ _ _ rfl rfl rfl rfl) fun w9 hT9 hg9 => ?_
  have hb9 := hA.below.grown hg9 hA.below.size (by rintro q ⟨⟩; omega);clear hA hg9;go_wp2_with fail
  exact ret_row_tmp3 rfl rfl hT9 rfl rfl size_group rfl (BAD.out _ _ hb9 NO.out)
 obtain ⟨e1, e2, e3⟩ := num_eq_facts c16;have ARG : Hid (ArgA sP g m) := ⟨GD.out, HB3.out, by have := HL.out.2.2.2; omega⟩
 clear c16;go_upto_region 3 with fail
 clear e1 e2 e3 m5;have HU3 : Hid (w.heap.size + 3 ≤ w3.heap.size) := hA.res.lt
 have hAE : AEx w w3.heap.size (gpC a.ia il a.ic a.sa sl a.sc g.number a.ma ml a.mc) (memC m.name m.roles m.since b.sa ls b.sc b.ca lc b.cc b.ha lh b.hc b.wa lw b.wc) (g.members.take 0) (w3.alloc (.cells #[.int .u64 0, .int .u64 0, .int .u64 0, .int .u64 0] 52)) :=
  ⟨[0, 0, 0, 0], SetIs.nil, Blk.new _ _ _, hA.alloc _⟩
 obtain ⟨U, hU⟩ : ∃ U, w3.heap.size = U := ⟨_, rfl⟩
 obtain ⟨w4, hw4⟩ : ∃ w4, w3.alloc (.cells #[.int .u64 0, .int .u64 0, .int .u64 0, .int .u64 0] 52) = w4 := ⟨_, rfl⟩
 rw [hU] at HU3;rw [hU, hw4] at hAE;have HW := Hh (And.intro hU hw4);clear hU hw4 hA;go_upto_region 4 with fail
 try rw [HW.out.1]
 try rw [HW.out.2]
 clear HW;have g3 : w4.cell? ⟨w.heap.size, 3, none⟩ = some (.slice a.ma ml a.mc) := by obtain ⟨_, _, _, hA⟩ := hAE; exact hA.grp.cell 3 rfl
 go_wp2_with fail
 clear g3;have HML : Hid ((ml : Int) ≤ 16) := by have h := GD.out.few; have h2 := HN.out.2.2; rw [Hid]; omega
 have H0 : Hid (¬ Clash (g.members.take 0) m) := by rintro ⟨o, ho, _⟩; rw [List.take_zero] at ho; cases ho
 go_loopw [29] (fun v29 wr => ∃ j : Nat, v29 = .int .i64 (j : Int) ∧ Hid (j ≤ ml) ∧ Hid (¬ Clash (g.members.take j) m) ∧ AEx w U (gpC a.ia il a.ic a.sa sl a.sc g.number a.ma ml a.mc) (memC m.name m.roles m.since b.sa ls b.sc b.ca lc b.cc b.ha lh b.hc b.wa lw b.wc) (g.members.take j) wr) (fun v29 _ => (ml : Int).toNat + 1 - (intOf v29).toNat)
 case atStart => exact ⟨0, rfl, Nat.zero_le _, H0, hAE⟩
 case round =>
  clear hAE H0;obtain ⟨j, rfl, HJ, HNC, vs, hvs, hU, hA⟩ := hrel;have HVS := Hh hvs;clear hvs
  by_cases hlt : (j : Int) < (ml : Int)
  ·have hjl : j < g.members.length := by rw [← HN.out.2.2]; omega
   obtain ⟨gb, go, hga, hat⟩ := HG.out.members.at_ (by omega);obtain ⟨d, hd, hc⟩ := hat j hjl;obtain ⟨xa, hd, hkx⟩ := hd;subst hd;have hs1 : g.members[j].sender.length = 1 := GD.out.unl.one _ (List.getElem_mem hjl);obtain ⟨x, hx⟩ : ∃ x, g.members[j] = x := ⟨_, rfl⟩
   rw [hx] at hc hkx hs1;have HTK : Hid (g.members.take (j + 1) = g.members.take j ++ [x]) := by rw [Hid, ← hx]; exact List.take_succ_eq_append_getElem hjl
   have HMX : Hid (x ∈ g.members) := by rw [Hid, ← hx]; exact List.getElem_mem hjl
   have hhr := HH.out.below hA.below (Nat.le_refl _);have r0 := hhr.cell (hc 0 _ rfl);have r1 := hhr.cell (hc 1 _ rfl);have r2 := hhr.cell (hc 2 _ rfl);have r3 := hhr.cell (hc 3 _ rfl);have r4 := hhr.cell (hc 4 _ rfl);have r5 := hhr.cell (hc 5 _ rfl);have r6 := hhr.cell (hc 6 _ rfl)
   simp only [lieM, Nat.add_zero, Nat.zero_add, ← Nat.add_assoc] at r0 r1 r2 r3 r4 r5 r6
   obtain ⟨xb, xo, hxa, hxs⟩ := hkx.sender.at_ (by omega);have hx0 := hxs 0 (by omega);have hxv : x.sender[0]'(by omega) = senB x := by have h := senB_is hs1; simp only [h]; rfl
   rw [hxv] at hx0
   simp only [Nat.add_zero] at hx0
   rw [hxa] at r1;obtain ⟨sn, hsn⟩ : ∃ n, x.sender.length = n := ⟨_, rfl⟩
   rw [hsn] at r1 hs1;have HKX := Hh hkx;have hQ := Blk.new wr 39 (memC x.name x.roles x.since (some ⟨xb, xo, none⟩) sn xa.sc xa.ca x.cred.length xa.cc xa.ha x.share.length xa.hc xa.wa x.wrap.length xa.wc);replace hA := hA.alloc (.cells (memC x.name x.roles x.since (some ⟨xb, xo, none⟩) sn xa.sc xa.ca x.cred.length xa.cc xa.ha x.share.length xa.hc xa.wa x.wrap.length xa.wc) 39);replace hU := hU.alloc (.cells (memC x.name x.roles x.since (some ⟨xb, xo, none⟩) sn xa.sc xa.ca x.cred.length xa.cc xa.ha x.share.length xa.hc xa.wa x.wrap.length xa.wc) 39);obtain ⟨Q, hQe⟩ : ∃ Q, wr.heap.size = Q := ⟨_, rfl⟩
   obtain ⟨w6, hw6⟩ : ∃ w6, wr.alloc (.cells (memC x.name x.roles x.since (some ⟨xb, xo, none⟩) sn xa.sc xa.ca x.cred.length xa.cc xa.ha x.share.length xa.hc xa.wa x.wrap.length xa.wc) 39) = w6 := ⟨_, rfl⟩
   rw [hQe, hw6] at hQ;rw [hw6] at hA hU;have HW2 := Hh (And.intro hQe hw6);have hj63 : (j : Int) + 1 ≤ 9223372036854775807 := by have := HML.out; omega
   have HJL := Hh (And.intro hjl hlt);have HGA := Hh hga;have g1 : (0 : Int) < (sn : Int) := by omega
   have HX0 := Hh hx0;clear hQe hw6 hat hc hkx hjl hhr hx hxa hsn hs1 hxs hxv hx0;rw [hga];go_upto_region 7 with fail
   try rw [HW2.out.1]
   try rw [HW2.out.2]
   clear r0 r1 r2 r3 r4 r5 r6 hga HW2;have hh6 := HH.out.below hA.below (Nat.le_refl _);have q0 := hQ.cell 0 rfl;have m0 := hA.mem.cell 0 rfl;have TW : Hid (x.name = m.name ∨ x.cred = m.cred ∨ x.wrap = m.wrap → AdmP sP g m 7 nilG []) := fun h => .twice ARG.out ⟨x, HMX.out, h⟩
   by_cases hq : x.name = m.name
   ·obtain ⟨f1, f2, f3⟩ := name_eq_facts hq;have NO := Hh (TW.out (.inl hq));clear hq hQ hh6;go_wp2_with (with_reducible refine stop_store ?_)
    refine wpList_store_item rfl _ _ _ rfl rfl _ _ rfl rfl _ _ hA.res size_group rfl (one4g _ _ _ _ rfl rfl rfl rfl) fun w9 hT9 hg9 => ?_
    have hb9 := hA.below.grown hg9 hA.below.size (by rintro q ⟨⟩; omega);clear hA hU hg9;go_wp2_with fail
    exact ret_row_tmp3 rfl rfl hT9 rfl rfl size_group rfl (BAD.out _ _ hb9 NO.out)
   obtain ⟨f1, f2, f3⟩ := name_ne_facts hq;have HQ1 := Hh hq;have q3 := hQ.cell 3 rfl;have m3 := hA.mem.cell 3 rfl;have k1 := conv_bytes (Src.of_row HKX.out.cred.row hh6) x.cred.length xa.cc rfl;have k2 := conv_bytes (Src.of_row HM.out.cred.row hh6) lc b.cc HL.out.2.1;clear hq
   by_cases hq : x.cred = m.cred
   ·have b1 : (x.cred = m.cred) = True := eq_true hq;have b2 : ((x.cred : List UInt8) == m.cred) = true := by simpa using hq
    have NO := Hh (TW.out (.inr (.inl hq)));clear hq hQ hh6;go_wp2_with (with_reducible refine stop_store ?_)
    refine wpList_store_item rfl _ _ _ rfl rfl _ _ rfl rfl _ _ hA.res size_group rfl (one4g _ _ _ _ rfl rfl rfl rfl) fun w9 hT9 hg9 => ?_
    have hb9 := hA.below.grown hg9 hA.below.size (by rintro q ⟨⟩; omega);clear hA hU hg9;go_wp2_with fail
    exact ret_row_tmp3 rfl rfl hT9 rfl rfl size_group rfl (BAD.out _ _ hb9 NO.out)
   have b1 : (x.cred = m.cred) = False := eq_false hq;have b2 : ((x.cred : List UInt8) == m.cred) = false := by simpa using hq
   have HQ2 := Hh hq;have q5 := hQ.cell 5 rfl;have m5 := hA.mem.cell 5 rfl;have k3 := conv_bytes (Src.of_row HKX.out.wrap.row hh6) x.wrap.length xa.wc rfl;have k4 := conv_bytes (Src.of_row HM.out.wrap.row hh6) lw b.wc HL.out.2.2.2;clear hq
   by_cases hq : x.wrap = m.wrap
   ·have b3 : (x.wrap = m.wrap) = True := eq_true hq;have b4 : ((x.wrap : List UInt8) == m.wrap) = true := by simpa using hq
    have NO := Hh (TW.out (.inr (.inr hq)));clear hq hQ hh6;go_wp2_with (with_reducible refine stop_store ?_)
    refine wpList_store_item rfl _ _ _ rfl rfl _ _ rfl rfl _ _ hA.res size_group rfl (one4g _ _ _ _ rfl rfl rfl rfl) fun w9 hT9 hg9 => ?_
    have hb9 := hA.below.grown hg9 hA.below.size (by rintro q ⟨⟩; omega);clear hA hU hg9;go_wp2_with fail
    exact ret_row_tmp3 rfl rfl hT9 rfl rfl size_group rfl (BAD.out _ _ hb9 NO.out)
   have b3 : (x.wrap = m.wrap) = False := eq_false hq;have b4 : ((x.wrap : List UInt8) == m.wrap) = false := by simpa using hq
   have HNC1 : Hid (¬ Clash (g.members.take (j + 1)) m) := by
    rw [HTK.out];rintro ⟨o, ho, h⟩
    rcases List.mem_append.1 ho with ho | ho
    ·exact HNC.out ⟨o, ho, h⟩
    ·rw [List.mem_singleton.1 ho] at h
     rcases h with h | h | h
     ·exact HQ1.out h
     ·exact HQ2.out h
     ·exact hq h
   clear hq;go_upto_region 9 with fail
   clear f1 f2 f3 b1 b2 b3 b4 k1 k2 k3 k4 q0 q3 q5 m0 m3 m5;have q1 := hQ.cell 1 rfl;have x0 := hh6.cell HX0.out;clear hh6 hQ;go_wp2_with fail
   refine (set_add HVS.out (senB x) U w6 hU).mono ?_
   rintro e w7 ⟨rfl, hU7, hg7⟩
   have hAE : AEx w U (gpC a.ia il a.ic a.sa sl a.sc g.number a.ma ml a.mc) (memC m.name m.roles m.since b.sa ls b.sc b.ca lc b.cc b.ha lh b.hc b.wa lw b.wc) (g.members.take (j + 1)) w7 := ⟨addW vs (senB x), by rw [HTK.out, List.map_append]; exact HVS.out.add _, hU7, hA.setU HU3.out hg7⟩
   clear hU hA hU7 hg7 q1 x0;go_wp2_with fail
   go_roundw
   case rel => exact ⟨j + 1, by go_num, (by have := HJL.out.2; exact (show j + 1 ≤ ml by omega)), HNC1, (by rw [← HGA.out]; exact hAE)⟩
   case measure => have := HJL.out.2; simp [intOf]; omega
  ·have hjm : j = g.members.length := by have := HN.out.2.2; have := HJ.out; omega
   have HNO : Hid (¬ Clash g.members m) := by have h := HNC.out; rw [hjm, List.take_length] at h; exact h
   have HVT : Hid (SetIs vs (g.members.map senB)) := by have h := HVS.out; rw [hjm, List.take_length] at h; exact h
   clear hjm HVS HNC HJ;have g3 := hA.grp.cell 3 rfl
   by_cases hfull : (16 : Int) ≤ (ml : Int)
   ·have NO : Hid (AdmP sP g m 16 nilG []) := .full ARG.out HNO.out (by have := HN.out.2.2; omega);go_wp2_with (with_reducible refine stop_store ?_)
    refine wpList_store_item rfl _ _ _ rfl rfl _ _ rfl rfl _ _ hA.res size_group rfl (one4g _ _ _ _ rfl rfl rfl rfl) fun w9 hT9 hg9 => ?_
    have hb9 := hA.below.grown hg9 hA.below.size (by rintro q ⟨⟩; omega);clear hA hU hg9;go_wp2_with fail
    exact ret_row_tmp3 rfl rfl hT9 rfl rfl size_group rfl (BAD.out _ _ hb9 NO.out)
   have HFU := Hh hfull;have g2 := hA.grp.cell 2 rfl
   by_cases hx : g.number = 65535
   ·obtain ⟨e1, e2, e3⟩ := num_eq_facts hx;have NO : Hid (AdmP sP g m 8 nilG []) := .limit ARG.out HNO.out (by have := HN.out.2.2; have := HFU.out; omega) hx;clear hx;go_wp2_with (with_reducible refine stop_store ?_)
    refine wpList_store_item rfl _ _ _ rfl rfl _ _ rfl rfl _ _ hA.res size_group rfl (one4g _ _ _ _ rfl rfl rfl rfl) fun w9 hT9 hg9 => ?_
    have hb9 := hA.below.grown hg9 hA.below.size (by rintro q ⟨⟩; omega);clear hA hU hg9;go_wp2_with fail
    exact ret_row_tmp3 rfl rfl hT9 rfl rfl size_group rfl (BAD.out _ _ hb9 NO.out)
   obtain ⟨e1, e2, e3⟩ := num_ne_facts hx;have HX := Hh hx;clear hx;go_upto_region 15 with fail
   clear e1 e2 e3 g2 g3 hfull hlt;have g0 := hA.grp.cell 0 rfl;have g1 := hA.grp.cell 1 rfl;have g2 := hA.grp.cell 2 rfl;have g3 := hA.grp.cell 3 rfl;go_wp2_with fail
   refine (C.out _ (HH.out.below hA.below (Nat.le_refl _))).mono ?_
   rintro e w8 ⟨A, c, B, d, v, Hr, rfl, hG8, hI8, hJ8, hO8, ha8⟩
   have HIJ := Hh (And.intro hI8 hJ8);obtain ⟨VA, vc, rfl, hvc, hjk⟩ := hO8.form;rw [← HN.out.1, ← HN.out.2.1, ← HN.out.2.2];rw [← HN.out.2.2] at hvc hO8 ha8
   have hF : FS w H U (rowN vs) (memC m.name m.roles m.since b.sa ls b.sc b.ca lc b.cc b.ha lh b.hc b.wa lw b.wc) (gpC A il c B sl d g.number VA ml vc) w8.heap.size (.slice VA ml vc) g.members (w8.alloc (.cells (gpC A il c B sl d g.number VA ml vc) 30)) Hr := by
    have hGr := (Grows.of_below HH.out hA.below).trans hG8;have hAz := hA.belowX hG8.below
    exact ⟨hGr.alloc _, hAz.mem.alloc _, hAz.res.alloc _, (hU.below hG8.below).alloc _, HU3.out, Blk.new _ _ _, (hU.below hG8.below).lt, hG8.none (HH.out.none_of_ge (by omega)) hA.mem.lt, hG8.none (HH.out.none_of_ge (by omega)) hA.res.lt, hG8.holds.none_of_ge (Nat.le_refl _), (hO8.more hU.lt).alloc _, fun e => by have := (hO8.lt _ e).2; omega, ha8⟩
   obtain ⟨P, hPe⟩ : ∃ P, w8.heap.size = P := ⟨_, rfl⟩
   obtain ⟨w5, hw5⟩ : ∃ w5, w8.alloc (.cells (gpC A il c B sl d g.number VA ml vc) 30) = w5 := ⟨_, rfl⟩
   rw [hPe, hw5] at hF;have HW := Hh (And.intro hPe hw5);have kw : IntKind.i64.wrap (g.number + 1) = g.number + 1 := IntWalk.i64_in _ (by have h1 := GD.out.num0; have h2 := GD.out.num1; omega);clear hPe hw5 hI8 hJ8 hO8 ha8 hG8 g0 g1 g2 g3 C hA hU hjk hvc;go_upto_region 16 with fail
   try rw [HW.out.1]
   try rw [HW.out.2]
   clear HW;have p2 := hF.var.cell 2 rfl;go_wp2_with (with_reducible refine stop_store ?_)
   refine wpList_store_cell rfl _ _ _ rfl rfl P 2 (.int .i64 (g.number + 1)) rfl rfl _ _ hF.var (by kernel_rfl) (by simp) rfl fun w6 hP6 hg6 => ?_
   replace hF := hF.setP (pc' := gpC A il c B sl d (g.number + 1) VA ml vc) hP6 hg6;clear p2 hP6 hg6 kw;obtain ⟨num, hnum⟩ : ∃ num, g.number + 1 = num := ⟨_, rfl⟩
   rw [hnum] at hF ⊢;have HNUM : Hid (num = g.number + 1 ∧ -9223372036854775808 ≤ num ∧ num ≤ 9223372036854775807) := by have h1 := GD.out.num0; have h2 := GD.out.num1; rw [Hid]; omega
   clear hnum;go_upto_region 17 with fail
   have m0 := hF.mem.cell 0 rfl;have m1 := hF.mem.cell 1 rfl;have m2 := hF.mem.cell 2 rfl;have m3 := hF.mem.cell 3 rfl;have m4 := hF.mem.cell 4 rfl;have m5 := hF.mem.cell 5 rfl;have m6 := hF.mem.cell 6 rfl;go_wp2_with fail
   refine (MM.out _ _ hF.grows.le hF.grows.holds).mono ?_
   rintro e w7 ⟨a3, H3, rfl, hG7, hm7⟩
   replace hF := hF.grow hG7;have HM3 := Hh hm7;rw [memQ, ← HL.out.1, ← HL.out.2.1, ← HL.out.2.2.1, ← HL.out.2.2.2];have HLE3 := Hh hG7.le;clear hG7 hm7 m0 m1 m2 m3 m4 m5 m6 MM;go_wp2_with (with_reducible refine stop_store ?_)
   refine wpList_store_item rfl _ _ _ rfl rfl _ _ rfl rfl _ _ hF.mem size_mem rfl (one7m _ _ _ _ _ _ _ rfl rfl rfl rfl rfl rfl rfl) fun w9 hB9 hg9 => ?_
   replace hF := hF.setM (mc' := memC m.name m.roles m.since a3.sa ls a3.sc a3.ca lc a3.cc a3.ha lh a3.hc a3.wa lw a3.wc) hB9 hg9;clear hB9 hg9;go_upto_region 18 with fail
   go_cut [] (fun wx => ∃ (n : UInt8) (L : Nat) (H1 : Snap), FS w H U (rowN vs) (memC m.name m.roles num (some ⟨L, 0, none⟩) 1 1 a3.ca lc a3.cc a3.ha lh a3.hc a3.wa lw a3.wc) (gpC A il c B sl d num VA ml vc) P (.slice VA ml vc) g.members wx H1 ∧ IsBytes H1 (some ⟨L, 0, none⟩) 1 [n] ∧ FreeB (g.members.map senB) n ∧ H3.le H1)
   case first =>
    replace hF := hF.drew;have hle := Snap.le.refl H3
    refine wp_region_ways 8 (fun wx => wx.cell? ⟨P, 2, none⟩ = some (.int .i64 num)) (by kernel_rfl) (hF.var.cell 2 rfl) (fun hHeld => ?_)
    refine TkS 2 rfl hHeld ?_
    refine TkS 3 rfl hHeld ?_
    refine To 0 rfl fun K hK => ?_
    go_simp
    refine (set_free HVT.out (by rw [List.length_map]; have := GD.out.few; omega) U _ hF.used).mono ?_
    rintro e w0 ⟨n0, rfl, hfr, rfl⟩
    refine Ko hK ?_ fun hHeld => ?_
    ·exact hF.var.cell 2 rfl
    clear hK K
    refine To 1 rfl fun K hK => ?_
    go_simp
    obtain ⟨H2, hG2, hi2, hjk⟩ := Fresh.snapB hF.grows.holds (Fresh.lit _ [n0] #[byteV n0] 1 rfl (by simp) rfl);have hF := hF.grow hG2;have hle := hle.trans hG2.le;clear hjk hG2
    refine Ko hK ?_ fun hHeld => ?_
    ·exact hF.var.cell 2 rfl
    clear hK K
    refine TkS 4 rfl hHeld ?_
    refine To 5 rfl fun K hK => ?_
    refine wp_store_cell _ _ _ rfl (w.heap.size + 1) 1 _ rfl rfl _ _ hF.mem (by kernel_rfl) (by simp) rfl fun w5 hB5 hg5 => ?_
    have hF := hF.setM hB5 hg5;clear hB5 hg5;go_simp
    refine Ko hK ?_ fun hHeld => ?_
    ·exact hF.var.cell 2 rfl
    clear hK K
    refine TkS 6 rfl hHeld ?_
    refine To 7 rfl fun K hK => ?_
    refine wp_store_cell _ _ _ rfl (w.heap.size + 1) 6 (.int .i64 num) rfl rfl _ _ hF.mem (by kernel_rfl) (by simp) rfl fun w7 hB7 hg7 => ?_
    have hF := hF.setM hB7 hg7;clear hB7 hg7;go_simp
    refine Ko hK ?_ fun hHeld => ?_
    ·exact hF.var.cell 2 rfl
    clear hK K
    refine Wd ?_
    clear hHeld;go_wp2_with fail
    go_meet
    exact ⟨_, _, _, hF, hi2, hfr, hle⟩
   case rest =>
    clear hF;obtain ⟨n, L, H1, hF, hi1, hfr, hle⟩ := hcut;have HFR := Hh hfr;rw [HL.out.2.1, HL.out.2.2.1, HL.out.2.2.2] at hF;obtain ⟨m', hm'⟩ : ∃ m' : Mb, m' = { m with sender := [n], since := num } := ⟨_, rfl⟩
    obtain ⟨mb', hmb'⟩ : ∃ mb' : MAd, mb' = { a3 with sa := some ⟨L, 0, none⟩, sc := 1 } := ⟨_, rfl⟩
    replace hF : FS w H U (rowN vs) (memQ m' mb') (gpC A il c B sl d num VA ml vc) P (.slice VA ml vc) g.members wc H1 := by rw [hm', hmb']; exact hF
    have HI1 := Hh hi1
    have HKX : Hid (MemA H1 m' mb') := by
     rw [hm', hmb'];have h := HM3.out
     exact ⟨h.name, hi1, h.cred.mono hle, h.share.mono hle, h.wrap.mono hle, by show [n].length ≤ 1099511; simp, h.small.2⟩
    have HMM : Hid (m' = { m with sender := [n], since := g.number + 1 }) := by rw [Hid, hm', HNUM.out.1]
    have HSA : Hid (mb'.sa = some ⟨L, 0, none⟩ ∧ m'.sender.length = 1 ∧ mb'.sc = 1) := by rw [Hid, hm', hmb']; exact ⟨rfl, rfl, rfl⟩
    have HIJ1 : Hid (IsBytes H1 A c g.id ∧ IsBytes H1 B d g.secret) := ⟨HIJ.out.1.mono (HLE3.out.trans hle), HIJ.out.2.mono (HLE3.out.trans hle)⟩
    clear hi1 hm' hmb' hle hfr;have q0 := hF.mem.cell 0 rfl;have q1 := hF.mem.cell 1 rfl;have q2 := hF.mem.cell 2 rfl;have q3 := hF.mem.cell 3 rfl;have q4 := hF.mem.cell 4 rfl;have q5 := hF.mem.cell 5 rfl;have q6 := hF.mem.cell 6 rfl;have p3 := hF.var.cell 3 rfl;go_wp2_with (at_builtin; refine stop_in ?_)
    unfold Stopped
    replace hF := hF.alloc (.cells (memQ m' mb') 39)
    refine OwnX.append rfl (.tmp 87) (.tmp 89) 28 rfl Tryz.underlying28 rfl (by omega) info_memM rfl hF.own _ 1 _ (memQ m' mb').toList [m'] rfl rfl (RowC.one ⟨mb', rfl, HKX.out⟩) (Src.new _ _ _ _ rfl _ rfl) (by have h2 := HML.out; have h3 := HN.out.2.2; simp only [List.length_singleton]; omega) hF.up fun v8 w8 hO8 hg8 hat8 => ?_
    replace hF := hF.app hO8 hg8 hat8;obtain ⟨A8, c8, rfl, hjk⟩ := hO8.form;obtain ⟨l8, hl8⟩ : ∃ l8, g.members ++ [m'] = l8 := ⟨_, rfl⟩
    have HL8 : Hid (l8 = g.members ++ [m'] ∧ l8.length ≤ 17) := by rw [← hl8]; have h2 := HML.out; have h3 := HN.out.2.2; rw [Hid, List.length_append, List.length_singleton]; exact ⟨rfl, by omega⟩
    rw [hl8] at hF ⊢;obtain ⟨m8, hm8⟩ : ∃ n, l8.length = n := ⟨_, rfl⟩
    have HM8 := Hh hm8;rw [hm8] at hF ⊢;clear hO8 hg8 hat8 hjk hl8 hm8 q0 q1 q2 q3 q4 q5 q6 p3;go_wp2_with (with_reducible refine stop_store ?_)
    refine wpList_store_cell rfl _ _ _ rfl rfl P 3 (.slice A8 m8 c8) rfl rfl _ _ hF.var (by kernel_rfl) (by simp) rfl fun w9 hP9 hg9 => ?_
    replace hF := hF.setP (pc' := gpC A il c B sl d num A8 m8 c8) hP9 hg9;clear hP9 hg9;obtain ⟨H9, hG9, hle9, hm9, hR9, hn9⟩ := hF.freeze;have HR9 := Hh (And.intro hm9 (And.intro hR9 hle9));have hT := hF.res;have hV := hF.var;have hM : Blk w9 (w.heap.size + 1) 39 (memQ m' mb') := hF.mem;have HFA : Hid (w.heap.size + 4 ≤ P) := by have := hF.far; have := hF.farU; rw [Hid]; omega
    have hq1 : w9.cell? ⟨w.heap.size + 1, 1, none⟩ = some (.slice (some ⟨L, 0, none⟩) 1 1) := by
     have h : w9.cell? ⟨w.heap.size + 1, 1, none⟩ = some (.slice mb'.sa m'.sender.length mb'.sc) := hM.cell 1 rfl;rw [HSA.out.1, HSA.out.2.1, HSA.out.2.2] at h
     exact h
    clear hF hm9 hR9 hle9 hM;go_upto_region 20 with fail
    replace hT := hT.below (Below.refl _ _).drew;replace hV := hV.below (Below.refl _ _).drew;replace hq1 := cell_belowM hq1 (Below.refl _ _).drew;replace hG9 := hG9.drew;have hle9 := Snap.le.refl H9
    refine wp_region_waysZ 4 (fun wx => wx.cell? ⟨P, 0, none⟩ = some (.slice A il c) ∧ wx.cell? ⟨P, 1, none⟩ = some (.slice B sl d) ∧ wx.cell? ⟨P, 2, none⟩ = some (.int .i64 num) ∧ wx.cell? ⟨P, 3, none⟩ = some (.slice A8 m8 c8) ∧ wx.cell? ⟨w.heap.size + 1, 1, none⟩ = some (.slice (some ⟨L, 0, none⟩) 1 1)) (by kernel_rfl) (⟨hV.cell 0 rfl, hV.cell 1 rfl, hV.cell 2 rfl, hV.cell 3 rfl, hq1⟩) (fun hHeld => ?_)
    refine Zk 0 rfl hHeld ?_
    refine Zk 1 rfl hHeld ?_
    refine Zk 2 rfl hHeld ?_
    refine Zo 3 rfl fun K hK => ?_
    go_simp
    refine (clone_Bytes (c := 1) (l := [n]) rfl (by simp) _ (Src.of_row ((HI1.out.mono HR9.out.2.2).mono hle9).row hG9.holds)).mono ?_
    rintro e w3 ⟨r3, rfl, hf3⟩
    obtain ⟨A3, c3, rfl, hj3⟩ := hf3.own.form;obtain ⟨H10, hG10, hi10, hk10⟩ := Fresh.snapB hG9.holds hf3;have hn9 := hG10.none hn9 hT.lt;have hT := hT.below hG10.below;have hV := hV.below hG10.below;have hq1 := cell_belowM hq1 hG10.below;have hG9 := hG9.trans hG10;have hle9 := hle9.trans hG10.le;have HI10 := Hh hi10;clear hj3 hk10 hf3 hG10 hi10
    refine Ko hK ?_ fun hHeld => ?_
    ·exact ⟨hV.cell 0 rfl, hV.cell 1 rfl, hV.cell 2 rfl, hV.cell 3 rfl, hq1⟩
    clear hK K
    refine Zo 4 rfl fun K hK => ?_
    refine wp_store_item _ _ _ rfl _ _ rfl rfl _ _ hT size_group rfl (one4g _ _ _ _ rfl rfl rfl rfl) fun w4 hT4 hg4 => ?_
    have hG9 := hG9.grownOwn hn9 (by omega) hg4;have hV := hV.grown hg4 (by intro e; injection e with e; have := HFA.out; omega);clear hg4;go_simp
    refine Kz hK ?_
    clear hK K
    refine ZkT 5 rfl (fun h => absurd h (by decide)) ?_
    refine ZkT 6 rfl (fun h => absurd h (by decide)) ?_
    refine WaysZ.done (by kernel_rfl) ?_
    clear hHeld hV hq1;go_wp2_with fail
    refine ret_row_tmp3 rfl rfl hT4 rfl rfl size_group rfl ?_
    exact ⟨admG g m n, ⟨A, c, B, d, A8, c8⟩, _, A3, c3, [n], 0, by rw [show admG g m n = ⟨g.id, g.secret, num, l8⟩ by rw [admG, HL8.out.1, HMM.out, HNUM.out.1]]; show Ending.returned _ = Ending.returned (.tuple #[.agg (gpC A g.id.length c B g.secret.length d num A8 l8.length c8), _, _]); rw [HM8.out, ← HN.out.1, ← HN.out.2.1]; rfl, hG9, ⟨(HIJ1.out.1.mono HR9.out.2.2).mono hle9, (HIJ1.out.2.mono HR9.out.2.2).mono hle9, by show _ ≤ g.number + 1 ∧ g.number + 1 ≤ _; have := HNUM.out; omega, by rw [show (admG g m n).members = l8 by rw [HL8.out.1, HMM.out]; rfl]; exact HR9.out.2.1.mono hle9, HG.out.small.1, HG.out.small.2.1, by rw [show (admG g m n).members = l8 by rw [HL8.out.1, HMM.out]; rfl]; have := HL8.out.2; omega⟩, HI10.out, .ok n ARG.out HNO.out (by have := HN.out.2.2; have := HFU.out; omega) HX.out (HFR.out.members GD.out.unl.one)⟩
theorem manager_Create {sP : Mb → Bool} {H : Snap} (hS : SoundIs sP H) {A B : Option Addr} {ca cb : Nat} {x y : List UInt8} {n m : Nat} (hn : n = x.length) (hm : m = y.length) (hx : x.length ≤ 1099511) (hy : y.length ≤ 1099511) (w : World) (hH : Holds w H) (hA : Src w A (x.map byteV)) (hB : Src w B (y.map byteV)) :
  Calls Tryz.prog 7 #[.slice A n ca, .slice B m cb] w (CrOut sP w H x y) := by
 have HN := Hh (And.intro hn (And.intro hm (And.intro hx hy)));have HH := Hh hH;have HA := Hh hA;have HB := Hh hB;have HS := Hh hS;have hT := Blk.new w 30 zeroG;have hb := below_box w (.cells zeroG 30);clear hn hm hx hy hH hA hB hS;go_enter Tryz.func7, Tryz.ntmps7
 go_wp2_with fail
 refine (clone_Bytes (c := ca) HN.out.1 (by have := HN.out.2.2.1; omega) _ (HA.out.below hb)).mono ?_
 rintro e w2 ⟨r2, rfl, hf2⟩
 obtain ⟨A2, d2, rfl, hj2⟩ := hf2.own.form;rw [← HN.out.1];obtain ⟨H2, hG2, hi2, hk2⟩ := Fresh.snapB (HH.out.below hb (Nat.le_refl _)) hf2;have HI2 := Hh hi2;replace hT := hT.below hG2.below;have hn2 : H2 w.heap.size = none := hG2.none (HH.out.none_of_ge (by omega)) (by rw [size_alloc]; omega);have hb2 := hb.trans (hG2.below.mono hb.size);have hG := (Grows.of_below HH.out hb).trans hG2;clear hi2 hf2 hb hG2 hj2 hk2;go_wp2_with fail
 refine (clone_Bytes (c := cb) HN.out.2.1 (by have := HN.out.2.2.2; omega) _ (HB.out.below hb2)).mono ?_
 rintro e w3 ⟨r3, rfl, hf3⟩
 obtain ⟨A3, d3, rfl, hj3⟩ := hf3.own.form;rw [← HN.out.2.1];obtain ⟨H3, hG3, hi3, hk3⟩ := Fresh.snapB hG.holds hf3;have HI : Hid (GpA H3 (newG x y) ⟨A2, d2, A3, d3, none, 0⟩) := ⟨HI2.out.mono hG3.le, hi3, by show (-9223372036854775808 : Int) ≤ 0 ∧ (0 : Int) ≤ 9223372036854775807; omega, rowNil _, HN.out.2.2.1, HN.out.2.2.2, by show (0 : Nat) ≤ _; omega⟩
 have hn3 : H3 w.heap.size = none := hG3.none hn2 hT.lt;replace hT := hT.below hG3.below;replace hG := hG.trans hG3;have HLE := Hh hG.le
 have V : Hid (∀ wx, Holds wx H3 → Calls Tryz.prog 14 #[.agg (gpC A2 n d2 A3 m d3 0 none 0 0)] wx (ValidOutP sP wx (newG x y))) := fun wx hx => by
  have h := manager_Valid (HS.out.mono HLE.out) HI.out wx hx
  have e : gpQ (newG x y) ⟨A2, d2, A3, d3, none, 0⟩ = gpC A2 n d2 A3 m d3 0 none 0 0 := by
   rw [HN.out.1, HN.out.2.1];rfl
  rw [e] at h
  exact h
 clear hi3 hf3 hG3 hn2 hb2 hj3 hk3 HI2;have hP := Blk.new w3 30 (gpC A2 n d2 A3 m d3 0 none 0 0);have hTl := hT.lt;replace hT := hT.alloc (.cells (gpC A2 n d2 A3 m d3 0 none 0 0) 30);replace hG := hG.alloc (.cells (gpC A2 n d2 A3 m d3 0 none 0 0) 30);obtain ⟨P, hPe⟩ : ∃ P, w3.heap.size = P := ⟨_, rfl⟩
 obtain ⟨w4, hw4⟩ : ∃ w4, w3.alloc (.cells (gpC A2 n d2 A3 m d3 0 none 0 0) 30) = w4 := ⟨_, rfl⟩
 rw [hPe, hw4] at hP;rw [hw4] at hT hG;have HW := Hh (And.intro hPe hw4);clear hPe hw4 hTl;go_upto_region 2 with fail
 try rw [HW.out.1]
 try rw [HW.out.2]
 clear HW;have p0 := hP.cell 0 rfl;have p1 := hP.cell 1 rfl;have p2 := hP.cell 2 rfl;have p3 := hP.cell 3 rfl;go_wp2_with fail
 refine (V.out _ hG.holds).mono ?_
 rintro e w5 ⟨b5, rfl, hv5, hb5⟩
 have HV := Hh hv5;replace hT := hT.below hb5;replace hP := hP.below hb5;replace hG := hG.below_ hb5;clear hb5 hv5 V p0 p1 p2 p3
 cases b5 with
 | false =>
  go_wp2_with (with_reducible refine stop_store ?_)
  refine wpList_store_item rfl _ _ _ rfl rfl _ _ rfl rfl _ _ hT size_group rfl (one4g _ _ _ _ rfl rfl rfl rfl) fun w9 hT9 hg9 => ?_
  have hG9 := hG.grownOwn hn3 (Nat.le_refl _) hg9;clear hT hG hg9 hP;go_wp2_with fail
  refine ret_row_tmp rfl rfl hT9 rfl rfl size_group rfl ?_
  exact ⟨nilG, ⟨none, 0, none, 0, none, 0⟩, H3, 1, rfl, hG9, zeroGA H3, .arg fun h => by have h2 := HV.out.2 h; cases h2⟩
 | true =>
  simp only [Bool.not_true]
  have p0 := hP.cell 0 rfl;have p1 := hP.cell 1 rfl;have p2 := hP.cell 2 rfl;have p3 := hP.cell 3 rfl;go_wp2_with (with_reducible refine stop_store ?_)
  refine wpList_store_item rfl _ _ _ rfl rfl _ _ rfl rfl _ _ hT size_group rfl (one4g _ _ _ _ rfl rfl rfl rfl) fun w9 hT9 hg9 => ?_
  have hG9 := hG.grownOwn hn3 (Nat.le_refl _) hg9;clear hT hG hg9 hP p0 p1 p2 p3;go_wp2_with fail
  refine ret_row_tmp rfl rfl hT9 rfl rfl size_group rfl ?_
  exact ⟨newG x y, ⟨A2, d2, A3, d3, none, 0⟩, H3, 0, by rw [HN.out.1, HN.out.2.1]; rfl, hG9, HI.out, .ok (HV.out.1 (by trivial))⟩
theorem mk_Few (A : Option Addr) (n c : Nat) (w : World) :
  Calls Tryz.prog 4 #[.slice A n c] w fun e w' => e = .returned (.bool (decide (n ≤ 300))) ∧ w = w' := by
 have hd : decide ((n : Int) ≤ 300) = decide (n ≤ 300) := by rw [decide_eq_decide]; omega
 go_enter Tryz.func4, Tryz.ntmps4
 go_wp2_with fail
 go_ret
 exact ⟨by first | rfl | (rw [← hd]; rfl), rfl⟩
def SaysB (e : Ending) : Prop := ∃ b : Bool, e = .returned (.bool b)
theorem deck_Left {H : Snap} {g : Nat} (w : World) (hD : DeckIn w g H) :
  Calls Tryz.prog 9 #[.pointer (some ⟨g, 0, none⟩)] w fun e w' => SaysB e ∧ Below w.heap.size w w' := by
 obtain ⟨A, c, l, k, hB, hl, hk⟩ := hD.deck;have hb : Below w.heap.size w w := Below.refl _ _;have h0 := hB.cell 0 rfl;have h1 := hB.cell 1 rfl;clear hD hB hl hk;obtain ⟨n, hn⟩ : ∃ n, l.length = n := ⟨_, rfl⟩
 rw [hn] at h0;clear hn;go_enter Tryz.func9, Tryz.ntmps9
 go_wp2_with fail
 go_big_quiet (fail)
 have hby := below_drewNv hb nq
 generalize w.drewN nq = wy at hby ⊢
 go_wp2_with fail
 go_ret
 exact ⟨⟨_, rfl⟩, hby⟩
theorem Grows.trans_butM {w w' w'' : World} {H H' H'' : Snap} {g : Nat} (h : Grows w H w' H') (k : GrowsBut w' H' w'' H'' g) (hg : w.heap.size ≤ g) : Grows w H w'' H'' := by
 refine ⟨below_of_grown h.below k.grown (by rintro q ⟨⟩; exact hg), h.le.trans k.le, k.holds, fun x o hx => ?_⟩
 rcases k.fresh x o hx with hx | hx
 ·exact h.fresh x o hx
 ·exact .inr (Nat.le_trans h.below.size hx)
structure PlainP (sP : Mb → Bool) (roles : Int) (m : Mb) : Prop where
 wrap : m.wrap.length = 16
 sound : 1 ≤ roles → roles ≤ 7 → sP m = true
def MemGivesP (sP : Mb → Bool) (roles : Int) (w : World) (H : Snap) (e : Ending) (w' : World) : Prop := ∃ m a H', e = .returned (.agg (memQ m a)) ∧ Grows w H w' H' ∧ MemA H' m a ∧ PlainP sP roles m
def PlainSaid (sP : Mb → Bool) (H : Snap) : Prop := ∀ (K : Snap), H.le K → ∀ (n roles : Int) (w : World), Holds w K → Calls Tryz.prog 12 #[.int .i64 n, .int .i64 roles] w (MemGivesP sP roles w K)
def SeedSaid : Prop := ∀ (n : Int) (w : World), Calls Tryz.prog 8 #[.int .i64 n] w fun e w' => ∃ A c l, e = .returned (.slice A 32 c) ∧ l.length = 32 ∧ Fresh w l (.slice A 32 c) w'
structure Nice (sP : Mb → Bool) (g x : Gp) (s : List UInt8) : Prop where
 next : x.number = g.number + 1
 valid : ValidG sP x
 new : s ≠ [] → ∀ m ∈ g.members, m.sender ≠ s
theorem AdmP.nice {sP : Mb → Bool} (hI : ∀ m s n, sP { m with sender := s, since := n } = sP m) {g x : Gp} {m : Mb} {q : Int} {s : List UInt8} (h : AdmP sP g m q x s) : s.length ≤ 1 ∧ (q = 0 → Nice sP g x s) := by
 cases h with
 | arg => exact ⟨by simp, fun h => by cases h⟩
 | twice => exact ⟨by simp, fun h => by cases h⟩
 | full => exact ⟨by simp, fun h => by cases h⟩
 | limit => exact ⟨by simp, fun h => by cases h⟩
 | ok n h1 h2 h3 h4 h5 => exact ⟨by simp, fun _ => ⟨rfl, admG_valid hI h1 h2 h3 h4 h5, fun _ => h5.free⟩⟩
theorem ExcP.nice {sP : Mb → Bool} {g x : Gp} {name : ByteArray} {q : Int} (h : ExcP sP g name q x) : q = 0 → Nice sP g x [] := by
 cases h with
 | arg => exact fun h => by cases h
 | gone => exact fun h => by cases h
 | limit => exact fun h => by cases h
 | ok h1 h2 h3 => exact fun _ => ⟨rfl, excG_valid h1 h3, fun h => absurd rfl h⟩
theorem AdmP.first {sP : Mb → Bool} {id secret : List UInt8} (hv : ValidG sP (newG id secret)) {m : Mb} (hm : PlainP sP 3 m) {q : Int} {x : Gp} {s : List UInt8} (h : AdmP sP (newG id secret) m q x s) : q = 0 ∧ s = [0] ∧ x.number = 1 ∧ x.members.length = 1 := by
 have ha : ArgA sP (newG id secret) m := ⟨hv, hm.sound (by omega) (by omega), hm.wrap⟩
 have hc : ¬ Clash (newG id secret).members m := by rintro ⟨o, ho, _⟩; cases ho
 cases h with
 | arg h => exact absurd ha h
 | twice _ h => exact absurd h hc
 | full _ _ h => simp [newG] at h
 | limit _ _ _ h => simp [newG] at h
 | ok n _ _ _ _ h =>
  have hn : n = 0 := by
   by_cases e : n = 0
   ·exact e
   ·have hp : 0 < n.toNat := Nat.pos_of_ne_zero fun h0 => e (UInt8.toNat_inj.1 h0)
    obtain ⟨m, hm, _⟩ := h.least 0 hp
    cases hm
  subst hn
  exact ⟨rfl, rfl, rfl, rfl⟩
end Go.Proofs.YtgaoknihklmakaaGreatDoor
