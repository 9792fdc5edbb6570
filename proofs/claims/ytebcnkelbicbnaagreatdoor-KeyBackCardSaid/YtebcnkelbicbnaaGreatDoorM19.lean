/- The first message, read a step at a time: plain mathematics. What is authenticated: when it is valid, and that it is one to one: plain mathematics. Walks: the references' Build. Walks: the references' Put. Walks: the deck's items of more levels. Walks: the program's reader of items: arrays. -/
import Derived.Test.YtebcnkelbicbnaaGreatDoorM11
import Derived.Test.YtebcnkelbicbnaaGreatDoorM18
import Derived.Test.YtebcnkelbicbnaaGreatDoorM06
import Derived.Test.YtebcnkelbicbnaaGreatDoorM12
import Derived.Test.YtebcnkelbicbnaaGreatDoorM02
import Derived.Test.YtebcnkelbicbnaaGreatDoorM01
set_option linter.unusedVariables false
set_option linter.unusedSimpArgs false
namespace Go.Proofs.YtebcnkelbicbnaaGreatDoor
open Go.RowKit

/-- A byte string of 1 to 64 bytes, and what it takes. -/
def bytesE (b : List UInt8) : Except Nat (List UInt8 × Nat) :=
  match prefixP b with
  | .err e => .error e
  | .ok x k _ => if x.kind ≠ 2 ∨ x.bytes.length < 1 ∨ 64 < x.bytes.length then .error 4 else .ok (x.bytes, k)
def d4 (m : Int) (su : List Int) (gx cn : List UInt8) (b : List UInt8) : Except Nat First :=
  match decExt b with
  | .error e => .error e
  | .ok ext => .ok ⟨m, su, gx, cn, ext⟩
def d3 (m : Int) (su : List Int) (gx : List UInt8) (b : List UInt8) : Except Nat First :=
  match parseConn b with
  | .error e => .error e
  | .ok (c, k4) => d4 m su gx c (b.drop k4)
def d2 (m : Int) (su : List Int) (b : List UInt8) : Except Nat First :=
  match bytesE b with
  | .error e => .error e
  | .ok (gx, k3) => d3 m su gx (b.drop k3)
def d1 (m : Int) (b : List UInt8) : Except Nat First :=
  match prefixP b with
  | .err e => .error e
  | .ok y k2 _ => match suitesE y with
    | .error e => .error e
    | .ok l => d2 m l (b.drop k2)
end Go.Proofs.YtebcnkelbicbnaaGreatDoor
namespace Go.Proofs.YtebcnkelbicbnaaGreatDoor
open Go.RowKit

theorem encB_len (k : Int) (n : Nat) (bs : List UInt8) (l : List Itm) (h8 : k ≠ 8) (h7 : k ≠ 7) : (encB (.mk k n bs l)).length ≤ 9 + bs.length + (encL l).length := by
  rw [encB_eq, if_neg (by simpa [Itm.kind] using h8), if_neg (by simp [Itm.kind, h7])]
  have := (headB_le k.toNat (numP (.mk k n bs l))).2
  simp only [Itm.kind, Itm.bytes, Itm.items, List.length_append]
  omega
theorem good_str (k : Int) (hk : k = 2 ∨ k = 3) (bs : List UInt8) (lv : Nat) (hv : k = 3 → Lib.validD bs = true) : Good (.mk k 0 bs []) lv := by
  refine Good.of ?_ (by simp only [Itm.items]; rw [GoodL]; trivial) (fun h => by simp only [Itm.kind] at h; omega)
  rw [nodeOk, if_pos (by rw [isPlain_iff]; simp only [Itm.kind]; omega)]
  rcases hk with rfl | rfl
  · simp [okPlain, Itm.kind, Itm.n, Itm.items]
  · simp [okPlain, Itm.kind, Itm.n, Itm.items, Itm.bytes, hv rfl]
end Go.Proofs.YtebcnkelbicbnaaGreatDoor
namespace Go.Proofs.YtebcnkelbicbnaaGreatDoor
open Go.RowKit

section
variable {w w' : World} {base : Nat} {H : Snap} {l : List Itm}
end
theorem cell_below {w w' : World} {a : Addr} {v : Value} (h : w.cell? a = some v) (hb : Below w.heap.size w w') : w'.cell? a = some v := (hb.cell (World.block_lt_of_cell? w _ h)).trans h
theorem own_of {A : Option Addr} {m c q : Nat} (h : A.map (·.block) = some q) : (Value.slice A m c).ownBlock = some q := by cases A <;> simp_all [Value.ownBlock]
end Go.Proofs.YtebcnkelbicbnaaGreatDoor
namespace Go.Proofs.YtebcnkelbicbnaaGreatDoor
open Go.RowKit

theorem snap_keep {H H' : Snap} {A : Option Addr} (hf : ∀ b o, H' b = some o → H b = some o ∨ A.map (·.block) = some b) {q : Nat} (h0 : H q = none) (hA : A.map (·.block) = some q → False) : H' q = none := by
  cases h : H' q with
  | none => rfl
  | some o =>
    rcases hf q o h with h1 | h1
    · rw [h0] at h1; cases h1
    · exact (hA h1).elim
end Go.Proofs.YtebcnkelbicbnaaGreatDoor
namespace Go.Proofs.YtebcnkelbicbnaaGreatDoor
open Go.RowKit

theorem own_hid3 {wr : World} {Hr : Snap} (hH : Holds wr Hr) {r0 r : Option Nat} (h0 : ∀ q, r0 = some q → Hr q = none) (h : At0 wr r0 r) : ∀ q, r = some q → Hr q = none := fun q hq => by
  rcases h with h | ⟨g, h1, h2⟩
  · exact h0 q (by rw [← h, hq])
  · rw [hq] at h1; injection h1 with h1; subst h1; exact hH.none_of_ge h2
end Go.Proofs.YtebcnkelbicbnaaGreatDoor
namespace Go.Proofs.YtebcnkelbicbnaaGreatDoor
open Go.RowKit

/-- What was read before, put ahead. -/
def PL.pre (L : List Itm) (k0 : Nat) : PL → PL
  | .err q => .err q
  | .ok l k c => .ok (L ++ l) (k0 + k) c
theorem arr_err_step {p : List UInt8 → Nat → PR} {m : Nat} {b : List UInt8} {cc q : Nat} (L : List Itm) (k0 : Nat) (h : p b cc = .err q) : (arrP p (m + 1) b cc).pre L k0 = .err q := by rw [arrP, h]; rfl
theorem arr_ok_step {p : List UInt8 → Nat → PR} {m : Nat} {b : List UInt8} {cc k c' : Nat} {x : Itm} (L : List Itm) (k0 : Nat) (h : p b cc = .ok x k c') : (arrP p (m + 1) b cc).pre L k0 = (arrP p m (b.drop k) c').pre (L ++ [x]) (k0 + k) := by
  rw [arrP, h]
  simp only
  cases arrP p m (b.drop k) c' with
  | err q => rfl
  | ok l k2 c2 => simp [PL.pre, Nat.add_assoc]
theorem pre_nil (r : PL) : r.pre [] 0 = r := by cases r <;> simp [PL.pre]
theorem Rdg.snap {T : TypeId} {w w' : World} {H H' H'' : Snap} {g B : Nat} {A0 : Option Addr} {c : Nat} {l : List UInt8} {p cnt : Nat} {A : Option Addr} (h : Rdg T w H w' H' g A0 c l p cnt) (hl : H'.le H'') (hh : Holds w' H'') (hf : ∀ b o, H'' b = some o → H' b = some o ∨ A.map (·.block) = some b)
    (hA : ∀ q, A.map (·.block) = some q → B ≤ q) (hB : w.heap.size ≤ B) (hg : g < w.heap.size) : Rdg T w H w' H'' g A0 c l p cnt := by
  refine ⟨⟨h.grows.grown, h.grows.le.trans hl, hh, fun b o hb => ?_⟩, h.psr.blk, h.psr.bytes.mono hl, hh, ?_, h.psr.le, h.psr.small, h.psr.cnt_le⟩
  · rcases hf b o hb with h1 | h1
    · exact h.grows.fresh b o h1
    · exact .inr (by have := hA _ h1; omega)
  · cases hx : H'' g with
    | none => rfl
    | some o =>
      rcases hf g o hx with h1 | h1
      · rw [h.psr.apart] at h1; cases h1
      · have := hA _ h1; omega
section
variable {d : Nat} {w : World} {H : Snap} {g : Nat} {A : Option Addr} {c : Nat} {l : List UInt8} {p cnt lv : Nat}
set_option maxRecDepth 100000 in
set_option maxHeartbeats 6400000 in
theorem p_item_4 (ih : PItem d) (hTab : Tabs H) (hlv : lv + (d + 1) = 8) (hP : Psr 109 w g H A c l p cnt) (hc : cnt < 256) {f n k : Nat} (hh : headP (l.drop p) = .ok (f, n, k)) (hk : f / 32 = 4) : Calls Tryz.prog 79 #[.pointer (some ⟨g, 0, none⟩), .int .i64 (lv : Int)] w (ItemOut 109 w H g A c l p (parse (d + 1) (l.drop p) cnt)) := by
  have hgl := hP.gt
  have hd0 := (Rdg.refl hP).alloc zeroO
  have hT0 := Blk.new w 26 #[.int .i64 0, .int .u64 0, .slice none 0 0, .slice none 0 0]
  have hn0 : H w.heap.size = none := hP.holds.none_of_ge (Nat.le_refl _)
  have c2 := hd0.psr.blk.cell 2 rfl

  have E0 := Lib.hid (parse_arr d (l.drop p) cnt (by omega) hh hk)
  have S : (f : Int) / 32 = 4 := by omega
  have hlv1 : ¬ ((8 : Int) ≤ (lv : Int)) := by omega
  have KL : IntKind.i64.wrap ((lv : Int) + 1) = (lv : Int) + 1 := IntWalk.i64_in _ (by omega)
  have hlvi : (lv : Int) ≤ 8 := by omega

  have hc256 : ((cnt : Int) == 256) = false := by simp; omega
  have hc256' : ((cnt : Int) = 256) = False := eq_false (by omega)
  have KC : IntKind.i64.wrap ((cnt : Int) + 1) = (cnt : Int) + 1 := IntWalk.i64_in _ (by omega)
  have HC := Lib.hid hc
  clear hc
  go_enter Tryz.func79, Tryz.ntmps79
  go_wp2_with (with_reducible refine stop_store ?_)
  unfold Stopped
  refine wpList_store_cell rfl _ _ _ rfl rfl g 2 (.int .i64 ((cnt : Int) + 1)) rfl rfl _ _ hd0.psr.blk size_int1 (by simp) rfl fun w2 hB2 hG2 => ?_
  have hd2 : Rdg 109 w H w2 H g A c l p (cnt + 1) := hd0.step hG2 hB2 hP.le (by have := HC.out; omega)
  have hT2 := hT0.grown hG2 (by intro e; injection e with e; omega)
  have PH := Lib.hid (p_head hd2.psr)
  clear hd0 hT0 hB2 hG2 c2 KC hc256 hc256'
  go_wp2_with fail
  refine PH.out.mono ?_
  intro e w3 hs
  rw [HeadSaid, hh] at hs

  obtain ⟨rfl, hB3, hG3⟩ := hs
  have HS := headP_spec hh
  have hle3 : p + k ≤ l.length := by have := HS.le; rw [List.length_drop] at this; have := hP.le; omega
  have hd3 : Rdg 109 w H w3 H g A c l (p + k) (cnt + 1) := hd2.step hG3 hB3 hle3 (by have := HC.out; omega)
  have hT3 := hT2.grown hG3 (by intro e; injection e with e; omega)
  have HF := Lib.hid HS
  clear hd2 hT2 hB3 hG3 PH HS hh

  rw [List.drop_drop] at E0
  have hX0 := Blk.new w3 26 #[.int .i64 0, .int .u64 0, .slice none 0 0, .slice none 0 0]
  have hd4 := hd3.alloc zeroO
  have hT4 := hT3.alloc zeroO
  have hlt3 := Lib.hid hT3.lt
  have hXn : H w3.heap.size = none := hd3.psr.holds.none_of_ge (Nat.le_refl _)
  clear hd3 hT3
  go_wp2_with (with_reducible refine stop_store ?_)
  unfold Stopped
  refine wpList_store_item rfl _ _ _ rfl rfl _ _ rfl rfl _ _ hX0 size_item rfl (one4 _ _ _ _ rfl rfl rfl rfl) fun w4 hX4 hg4 => ?_
  have hd5 := hd4.grownRow (row := some w3.heap.size) (by rintro q ⟨⟩; exact hXn) (by rintro q ⟨⟩; exact Nat.le_of_lt hlt3.out) hgl hg4
  have hT5 := hT4.grown hg4 (by intro e; injection e with e; have := hlt3.out; omega)
  clear hd4 hT4 hX0 hg4
  obtain ⟨X, hXX⟩ : ∃ X, w3.heap.size = X := ⟨_, rfl⟩
  rw [hXX] at hX4 hXn hlt3 ⊢
  clear hXX
  have HNL := Lib.hid HF.out.n_lt
  obtain ⟨P, hPP⟩ : ∃ P, p + k = P := ⟨_, rfl⟩
  rw [hPP] at hd5 E0
  go_wp2_with fail
  go_loopw [7] (fun v7 wr => ∃ (m : Nat) (Hr : Snap) (VA : Option Addr) (vc vn : Nat) (L : List Itm) (k0 cc : Nat), v7 = .int .u64 (m : Int) ∧ m ≤ n ∧ vn = L.length ∧ Rdg 109 w H wr Hr g A c l (P + k0) cc ∧ Blk wr w.heap.size 26 #[.int .i64 0, .int .u64 0, .slice none 0 0, .slice none 0 0] ∧ Hr w.heap.size = none ∧
    Blk wr X 26 #[.int .i64 4, .int .u64 0, .slice none 0 0, .slice VA vn vc] ∧ Hr X = none ∧ OwnI wr (X + 1) (.slice VA vn vc) Hr L ∧ (∀ q, (Value.slice VA vn vc).ownBlock = some q → Hr q = none) ∧ L.length ≤ cc ∧
    arrP (parse d) n (l.drop P) (cnt + 1) = (arrP (parse d) m (l.drop (P + k0)) cc).pre L k0) (fun v7 _ => (intOf v7).toNat)
  case atStart => exact ⟨n, H, none, 0, 0, [], 0, cnt + 1, rfl, Nat.le_refl _, rfl, hd5, hT5, hn0, hX4, hXn, OwnI.nil _ _ H, by intro q hq; simp [Value.ownBlock] at hq, by simp, by rw [pre_nil]; rfl⟩
  case round =>
    clear hd5 hT5 hX4
    obtain ⟨m, Hr, VA, vc, vn, L, k0, cc, rfl, hmn, rfl, hdr, hTr, hTn, hXr, hXrn, hOr, hnr, hLc, hrel2⟩ := hrel
    have HREL := Lib.hid hrel2
    have HLC := Lib.hid hLc
    have HMN := Lib.hid hmn
    clear hrel2 hLc hmn
    by_cases hm0 : 0 < m
    · obtain ⟨m1, rfl⟩ : ∃ m1, m = m1 + 1 := ⟨m - 1, by omega⟩
      have hmi : (0 : Int) < ((m1 + 1 : Nat) : Int) := by omega
      have IT := ih wr Hr g A c l (P + k0) cc (lv + 1) (hTab.mono hdr.grows.le) (by omega) hdr.psr
      rw [show ((lv + 1 : Nat) : Int) = (lv : Int) + 1 by omega] at IT
      have ITH := Lib.hid IT
      have hXl := Lib.hid hXr.lt
      clear IT
      go_wp2_with fail
      refine ITH.out.mono ?_
      intro e w5 hs
      cases hp : parse d (l.drop (P + k0)) cc with
      | err q =>
        rw [hp, ItemOut] at hs
        obtain ⟨rfl, H5, p5, cnt5, hd35⟩ := hs
        have hq0 : ((q : Int) != 0) = true := by rw [bne_iff_ne]; have := parse_err _ _ _ _ hp; omega
        have hq0' : ((q : Int) = 0) = False := eq_false (by have := parse_err _ _ _ _ hp; omega)
        have E : Hid (parse (d + 1) (l.drop p) cnt = .err q) := by rw [Hid, E0.out, HREL.out, arr_err_step L k0 hp]
        have hd6 := hdr.trans hd35
        have hT6 := hTr.rdg hd35 (by omega)
        have hn6 := hd35.hid hTn hTr.lt
        have hY := Blk.new w5 26 #[.int .i64 0, .int .u64 0, .slice none 0 0, .slice none 0 0]
        have hYn : H5 w5.heap.size = none := hd6.psr.holds.none_of_ge (Nat.le_refl _)
        have hTl := Lib.hid hT6.lt
        have hd7 := hd6.alloc zeroO
        have hT7 := hT6.alloc zeroO
        clear ITH hp hdr hd35 hTr hXr hOr hnr HREL HLC hd6 hT6
        go_wp2_with (with_reducible refine stop_store ?_)
        unfold Stopped
        refine wpList_store_item rfl _ _ _ rfl rfl _ _ rfl rfl _ _ hY size_item rfl (one4 _ _ _ _ rfl rfl rfl rfl) fun w8 hY8 hg8 => ?_
        have hd8 := hd7.grownRow (row := some w5.heap.size) (by rintro q ⟨⟩; exact hYn) (by rintro q ⟨⟩; exact Nat.le_of_lt hTl.out) hgl hg8
        have hT8 := hT7.grown hg8 (by intro e; injection e with e; have := hTl.out; omega)
        clear hd7 hT7 hY hg8 hY8
        go_wp2_with (with_reducible refine stop_store ?_)
        unfold Stopped
        refine wpList_store_item rfl _ _ _ rfl rfl _ _ rfl rfl _ _ hT8 size_item rfl (one4 _ _ _ _ rfl rfl rfl rfl) fun wz hTy hgz => ?_
        have hdz := hd8.grownRow (row := some w.heap.size) (by rintro q ⟨⟩; exact hn6) (by rintro q ⟨⟩; exact Nat.le_refl _) hgl hgz
        go_wp2_with fail
        refine ret_row_tmp rfl rfl hTy rfl rfl size_item rfl ?_

        exact ItemOut.err E.out rfl hdz
      | ok x k' c' =>
        rw [hp, ItemOut] at hs
        obtain ⟨ja, jb, jc, jd, H5, rfl, hd35, hi5⟩ := hs
        have HR2 : Hid (arrP (parse d) n (l.drop P) (cnt + 1) = (arrP (parse d) m1 (l.drop (P + (k0 + k'))) c').pre (L ++ [x]) (k0 + k')) := by
          rw [Hid, HREL.out, arr_ok_step L k0 hp, List.drop_drop, Nat.add_assoc]
        have HC2 : Hid ((L ++ [x]).length ≤ c') := by
          have := parse_counts d _ _ _ _ _ hp
          have := HLC.out
          rw [Hid, List.length_append]; simp; omega
        have hd6 := hdr.trans hd35
        rw [Nat.add_assoc] at hd6
        have hc6 := hd6.psr.cnt_le
        have hT6 := hTr.rdg hd35 (by omega)
        have hn6 := hd35.hid hTn hTr.lt
        have hX6 := hXr.rdg hd35 (by have := hlt3.out; omega)
        have hXn6 := hd35.hid hXrn hXr.lt
        have hO6 := (hOr.rdg hd35 (by have := hlt3.out; omega)).mono hd35.grows.le
        have hon6 : ∀ q, (Value.slice VA L.length vc).ownBlock = some q → H5 q = none := fun q hq => hd35.hid (hnr q hq) (hOr.lt q hq).2
        have hY := Blk.new w5 26 #[.int .i64 0, .int .u64 0, .slice none 0 0, .slice none 0 0]
        have hYn : H5 w5.heap.size = none := hd6.psr.holds.none_of_ge (Nat.le_refl _)
        have hTl := Lib.hid (And.intro hT6.lt hX6.lt)
        have hol := Lib.hid (show ∀ q, (Value.slice VA L.length vc).ownBlock = some q → X + 1 ≤ q ∧ q < w5.heap.size from fun q hq => hO6.lt q hq)
        have hd7 := hd6.alloc zeroO
        have hT7 := hT6.alloc zeroO
        have hX7 := hX6.alloc zeroO
        have hO7 := hO6.alloc zeroO
        have HLN := Lib.hid (show L.length ≤ 256 by have := HC2.out; simp at this; omega)
        clear ITH hp hdr hd35 hTr hXr hOr hnr HREL HLC hd6 hT6 hX6 hO6
        go_wp2_with (with_reducible refine stop_store ?_)
        unfold Stopped
        refine wpList_store_item rfl _ _ _ rfl rfl _ _ rfl rfl _ _ hY size_item rfl (one4 _ _ _ _ rfl rfl rfl rfl) fun w8 hY8 hg8 => ?_
        have hd8 := hd7.grownRow (row := some w5.heap.size) (by rintro q ⟨⟩; exact hYn) (by rintro q ⟨⟩; exact Nat.le_of_lt hTl.out.1) hgl hg8
        have hT8 := hT7.grown hg8 (by intro e; injection e with e; have := hTl.out.1; omega)
        have hX8 := hX7.grown hg8 (by intro e; injection e with e; have := hTl.out.2; omega)
        have hO8 := hO7.kept hg8 (by
          cases hv : (Value.slice VA L.length vc).ownBlock with
          | none => exact .inl rfl
          | some q => exact .inr (fun e => by injection e with e; have := (hol.out q hv).2; omega))
        have b0 := hY8.cell 0 rfl
        have b1 := hY8.cell 1 rfl
        have b2 := hY8.cell 2 rfl
        have b3 := hY8.cell 3 rfl
        have x3 := hX8.cell 3 rfl
        have hd9 := hd8.alloc (.cells (itemC x ja jb jc jd).toArray 26)
        have hT9 := hT8.alloc (.cells (itemC x ja jb jc jd).toArray 26)
        have hX9 := hX8.alloc (.cells (itemC x ja jb jc jd).toArray 26)
        have hO9 := hO8.alloc (.cells (itemC x ja jb jc jd).toArray 26)
        clear hd7 hT7 hX7 hO7 hY hg8 hd8 hT8 hX8 hO8
        go_wp2_with (at_builtin; refine stop_in ?_)
        unfold Stopped
        refine wpList_app_items rfl (.tmp 159) (.tmp 161) rfl (X + 1) (.slice VA L.length vc) H5 _ rfl hO9 _ 1 _ (itemC x ja jb jc jd) [x] rfl rfl (ItemsC.one hi5) (Src.new _ _ _ _ rfl _ rfl) (by have := HLN.out; simp; omega) hX9.lt fun v' w10 hO10 hg10 hat10 => ?_
        obtain ⟨VA', vc', rfl, _⟩ := hO10.form
        have hT10 := hT9.grown hg10 (fun e => by have := (hol.out _ e).1; have := hlt3.out; omega)
        have hX10 := hX9.grown hg10 (fun e => by have := (hol.out _ e).1; omega)
        have hn10 := own_hid3 hd9.psr.holds hon6 hat10
        have hd10 := hd9.grownRow hon6 (fun q hq => by have := (hol.out q hq).1; have := hlt3.out; omega) hgl hg10
        obtain ⟨L', hL'⟩ : ∃ L', L ++ [x] = L' := ⟨_, rfl⟩
        rw [hL'] at hO10 hn10 HR2 HC2 ⊢
        have HLL : Hid (L'.length = L.length + 1) := by rw [Hid, ← hL']; simp
        clear hL' hd9 hT9 hX9 hO9 hg10 hat10 x3
        have hO10l := Lib.hid (show ∀ q, (Value.slice VA' L'.length vc').ownBlock = some q → X + 1 ≤ q from fun q hq => (hO10.lt q hq).1)
        go_wp2_with (with_reducible refine stop_store ?_)
        unfold Stopped
        refine wpList_store_cell rfl _ _ _ rfl rfl X 3 _ rfl rfl _ _ hX10 size_items (by simp) rfl fun w11 hX11 hg11 => ?_
        have hd11 := hd10.grownRow (row := some X) (by rintro q ⟨⟩; exact hXn6) (by rintro q ⟨⟩; exact Nat.le_of_lt hlt3.out) hgl hg11
        have hT11 := hT10.grown hg11 (by intro e; injection e with e; have := hlt3.out; omega)
        have hO11 := hO10.kept hg11 (by
          cases hv : (Value.slice VA' L'.length vc').ownBlock with
          | none => exact .inl rfl
          | some q => exact .inr (fun e => by injection e with e; have := hO10l.out q hv; omega))
        have KM : IntKind.u64.wrap (((m1 + 1 : Nat) : Int) - 1) = (m1 : Int) := by rw [show ((m1 + 1 : Nat) : Int) - 1 = (m1 : Int) by omega, IntKind.wrap_u64]; have := HNL.out; have := HMN.out; omega
        have KM2 : IntKind.u64.wrap (m1 : Int) = (m1 : Int) := by rw [IntKind.wrap_u64]; have := HNL.out; have := HMN.out; omega
        clear hd10 hT10 hX10 hO10 hg11
        go_wp2_with fail
        go_roundw
        case rel => exact ⟨m1, H5, VA', vc', _, L', k0 + k', c', by first | rfl | (simp; done) | go_num, by have := HMN.out; omega, rfl, hd11, hT11, hn6, hX11, hXn6, hO11, hn10, HC2.out, HR2.out⟩
        case measure => simp [intOf]; try omega
    · have hm : m = 0 := by omega
      subst hm
      have E1 : Hid (parse (d + 1) (l.drop p) cnt = .ok (.mk 4 0 [] L) (k + k0) cc) := by
        rw [Hid, E0.out, HREL.out, arrP]; simp [PL.pre]
      obtain ⟨H5, hl5, hh5, hf5, hz5, hle1, hle2, hel5⟩ := hOr.snap hdr.psr.holds (fun q hq => hnr q (own_of hq))
      have hlow : ∀ q, VA.map (·.block) = some q → X + 1 ≤ q := fun q hq => (hOr.lt q (own_of hq)).1
      have hn5 : H5 w.heap.size = none := snap_keep hf5 hTn (fun e => by have := hlow _ e; have := hlt3.out; omega)
      have hd6 : Rdg 109 w H wr H5 g A c l (P + k0) cc := hdr.snap (B := X + 1) hl5 hh5 hf5 hlow (by have := hlt3.out; omega) hgl
      have b0 := hXr.cell 0 rfl
      have b1 := hXr.cell 1 rfl
      have b2 := hXr.cell 2 rfl
      have b3 := hXr.cell 3 rfl
      have hii : IsItem H5 none 0 VA vc (.mk 4 0 [] L) := IsRowI.item ⟨hle1, hle2, hel5⟩ 4 (by omega) 0 (by omega)
      have HPP := Lib.hid hPP
      clear hOr hf5 hel5 hh5 hl5 hTn hnr hlow hdr HREL hPP
      go_wp2_with (with_reducible refine stop_store ?_)
      unfold Stopped
      refine wpList_store_item rfl _ _ _ rfl rfl _ _ rfl rfl _ _ hTr size_item rfl (one4 _ _ _ _ rfl rfl rfl rfl) fun wz hTy hgz => ?_
      have hdz := hd6.grownRow (row := some w.heap.size) (by rintro q ⟨⟩; exact hn5) (by rintro q ⟨⟩; exact Nat.le_refl _) hgl hgz
      go_wp2_with fail
      refine ret_row_tmp rfl rfl hTy rfl rfl size_item rfl ?_

      exact ItemOut.ok E1.out rfl (by rw [← Nat.add_assoc, HPP.out]; exact hdz) hii
end
end Go.Proofs.YtebcnkelbicbnaaGreatDoor
