/- squeezed. Walks: the deck's bytes that a num -/
import Derived.Test.YtlebpackbfcfeaaDoorK46
import Derived.Test.YtlebpackbfcfeaaDoorK47
import Derived.Test.YtlebpackbfcfeaaDoorK40
import Derived.Test.YtlebpackbfcfeaaDoorK21
set_option linter.unusedVariables false
set_option linter.unusedSimpArgs false
set_option maxRecDepth 100000
set_option maxHeartbeats 12800000
namespace Go.Proofs.YtlebpackbfcfeaaDoor
open Go.RowKit
theorem byte_mod (v : Int) : ∃ x : UInt8, Value.int .u8 (v % 256) = byteV x := by
 obtain ⟨x, hx⟩ := byte_wrap v
 exact ⟨x, by rw [← hx, IntKind.wrap_u8]⟩
theorem mk_Some (q : Int) {n : Nat} (hn : n ≤ 64) (w : World) :
  Calls Tryd.prog 22 #[.int .i64 q, .int .i64 (n : Int)] w fun e w' => ∃ A c l, e = .returned (.slice A n c) ∧ l.length = n ∧ Fresh w l (.slice A n c) w' := by
 have hb1 := Below.refl w.heap.size w
 go_enter Tryd.func22, Tryd.ntmps22
 go_wp2_with fail
 go_loopw [5, 8] (fun v3 v5 wr => ∃ (k : Nat) (VA : Option Addr) (vc vn : Nat) (l : List UInt8), k ≤ n ∧ v5 = .int .i64 (k : Int) ∧ v3 = .slice VA vn vc ∧ vn = k ∧ l.length = k ∧ OwnB wr w.heap.size (.slice VA vn vc) l ∧ Below w.heap.size w wr) (fun _ v5 _ => n - (intOf v5).toNat)
 case atStart => exact ⟨0, none, 0, 0, [], by omega, rfl, rfl, rfl, rfl, OwnB.nil _ _, hb1⟩
 case round =>
  clear hb1
  obtain ⟨k, VA, vc, vn, l, hk, rfl, rfl, hvn, hlk, hOr, hbr⟩ := hrel
  have HK := Hh hk
  have HV := Hh (And.intro hvn hlk)
  clear hk hvn hlk
  by_cases hlt : k < n
  ·have hki : (k : Int) < (n : Int) := by omega
   have hkd : decide ((k : Int) < (n : Int)) = true := decide_eq_true hki
   have hkn : decide (k < n) = true := decide_eq_true hlt
   have HLT := Hh hlt
   go_wp2_with (at_builtin; refine stop_in ?_)
   unfold Stopped
   generalize IntKind.u64.wrap q / 2 ^ (8 * (k % 8)) + (k : Int) / 8 = v0
   obtain ⟨x, hx⟩ : ∃ x : UInt8, Value.int .u8 (v0 % 256) = byteV x := byte_mod _
   have HC : Hid ((#[.int .u8 (v0 % 256)] : Array Value).toList = [x].map byteV) := by simp [Hid, ← hx]
   have hO1 := hOr.alloc (.cells #[.int .u8 (v0 % 256)] 5)
   have hb2 := hbr.alloc hbr.size (.cells #[.int .u8 (v0 % 256)] 5)
   refine wpList_app_bytes rfl (.tmp 11) (.tmp 24) rfl w.heap.size (.slice VA vn vc) l rfl hO1 _ 1 _ [x] rfl rfl (Src.new _ _ _ _ rfl _ HC.out) (by have := HV.out; have := HK.out; simp; omega) hb2.size fun v' w7 hO7 hg7 hat7 => ?_
   have hb7 := hb2.grown hg7 hb2.size (fun q hq => (hO1.lt q hq).1)
   obtain ⟨VA', vc', rfl, hjunk⟩ := hO7.form
   clear hjunk hg7 hat7 hx hO1 hb2 hOr hbr
   obtain ⟨m, hm⟩ : ∃ m, l ++ [x] = m := ⟨_, rfl⟩
   have HM : Hid (m.length = k + 1) := by have := HV.out; rw [Hid, ← hm, List.length_append]; simp; omega
   rw [hm] at hO7 ⊢
   clear hm
   go_wp2_with fail
   go_roundw
   case rel => exact ⟨k + 1, VA', vc', _, m, by have := HLT.out; omega, by go_num, rfl, HM.out, HM.out, hO7, hb7⟩
   case measure => have := HLT.out; simp [intOf]; omega
  ·have hki : ¬ ((k : Int) < (n : Int)) := by omega
   have hkd : decide ((k : Int) < (n : Int)) = false := decide_eq_false hki
   have hkn : decide (k < n) = false := decide_eq_false hlt
   obtain rfl : vn = n := by have := HV.out; have := HK.out; omega
   have HL : Hid (l.length = vn) := by have := HV.out; rw [Hid]; omega
   clear hlt
   go_wp2_with fail
   go_ret
   exact ⟨VA, vc, rfl, l, HL.out, hOr, hbr⟩
theorem OwnX.append_wp {α : Type} {L : Lie α} {t : TypeId} {w : World} {base : Nat} {v : Value} {H : Snap} {l : List α} {o : Oper} {a : Act} {K : Act → World → Prop} {Q : Exit → Act → World → Prop} (s x : Operand) (T : TypeId)
  (ho : o.op = .call { callee := .builtin .append, args := #[s, x], argTypes := #[T, T] }) (hT : Tryd.prog.underlying T = some (.slice t)) {z : Value} {bytes : Nat} (hzs : z.cells.size = L.k) (hby : bytes ≤ 128)
  (hinfo : (Tryd.prog.info? t).map (fun i => (i.zero, i.size, i.bytes)) = some (some z, L.k, bytes))
  (hs : a.eval s = v) (hown : OwnX L t w base v H l) (A : Option Addr) (m c : Nat) (cs : List Value) (news : List α) (hx : a.eval x = .slice A m c) (hm : m = news.length)
  (hn : RowC L H cs news) (hr : Src w A cs) (hlen : l.length + news.length ≤ 1099511627776) (hbase : base ≤ w.heap.size)
  (h : ∀ v' w', OwnX L t w' base v' H (l ++ news) → w.grownBy w' v.ownBlock → At0 w v.ownBlock v'.ownBlock → K (a.put o.dst v') w') :
  Oper.wp Tryd.prog o a w K Q := by
 subst hm
 obtain ⟨xs, hxs, hown⟩ := hown
 obtain ⟨i0, hi0, hz0, hz1, hz2⟩ := info_parts hinfo
 refine wp_append_src s x _ ho base t i0 _ L.k bytes hT hi0 hz0 hz1 hz2 hzs L.pos v l.length xs hs hown A news.length c cs hx hn.len hr hn.oneCell
  (by simp only [maxLen]; omega) (by have := Nat.mul_le_mul hlen hby; omega) hbase fun v' w' h2 h3 h4 => h v' w' ?_ h3 ?_
 ·exact ⟨xs ++ cs, hxs.app hn, by simpa using h2⟩
 ·rcases h4 with h4 | h4
  ·exact .inl h4
  ·exact .inr ⟨_, h4, Nat.le_refl _⟩
theorem rowC_ints {H : Snap} : ∀ l : List Int, RowC lieI H (l.map fun v => Value.int .i64 v) l
 | [] => RowC.nil _ _
 | x :: l => by rw [List.map_cons]; exact ⟨[.int .i64 x], _, rfl, rfl, rowC_ints l⟩
theorem src_take {w : World} {b off : Nat} {l : List Int} (hat : ∀ j, j < l.length → w.cell? ⟨b, off + j, none⟩ = some (.int .i64 (l.getD j 0))) (r : Nat) : Src w (some ⟨b, off, none⟩) ((l.take r).map fun v => Value.int .i64 v) := fun _ => by
 refine ⟨b, off, rfl, fun j v hj => ?_⟩
 rw [List.getElem?_map, Option.map_eq_some_iff] at hj
 obtain ⟨x, hx, rfl⟩ := hj
 rw [List.getElem?_take] at hx
 split at hx
 ·obtain ⟨h1, h2⟩ := List.getElem?_eq_some_iff.1 hx
  rw [hat j h1, getD_lt h1, h2]
 ·cases hx
theorem src_drop {w : World} {b off : Nat} {l : List Int} (hat : ∀ j, j < l.length → w.cell? ⟨b, off + j, none⟩ = some (.int .i64 (l.getD j 0))) (r : Nat) : Src w (some ⟨b, off + r, none⟩) ((l.drop r).map fun v => Value.int .i64 v) := fun _ => by
 refine ⟨b, off + r, rfl, fun j v hj => ?_⟩
 rw [List.getElem?_map, Option.map_eq_some_iff] at hj
 obtain ⟨x, hx, rfl⟩ := hj
 rw [List.getElem?_drop] at hx
 obtain ⟨h1, h2⟩ := List.getElem?_eq_some_iff.1 hx
 rw [Nat.add_assoc, hat (r + j) h1, getD_lt h1, h2]
def SuitesMade (w : World) (H : Snap) (g : Nat) (e : Ending) (w' : World) : Prop :=
 ∃ A c l, e = .returned (.slice A l.length c) ∧ l.length ≤ 3 ∧ ∃ H', IsRow lieI H' A c l ∧ Dealt w H w' H' g
theorem mk2_Suites {H : Snap} {g : Nat} (w : World) (hD : DeckIn w g H) :
  Calls Tryd.prog 21 #[.pointer (some ⟨g, 0, none⟩)] w (SuitesMade w H g) := by
 have hgl := hD.deck.lt
 obtain ⟨H1, hG1, hl1, hr1⟩ := lit_row (L := lieI) (Grows.refl hD.holds) (rowC_ints [0, 1, 2, 3, 24, 65535]) 3 (by simp)
 have hd1 : Dealt w H (w.alloc (.cells #[.int .i64 0, .int .i64 1, .int .i64 2, .int .i64 3, .int .i64 24, .int .i64 65535] 3)) H1 g := hD.grows hG1
 replace hr1 : IsRow lieI H1 (some ⟨w.heap.size, 0, none⟩) 6 [0, 1, 2, 3, 24, 65535] := hr1
 have NX := Hh (deck_Next _ hd1.deck 3 (by omega) (by omega))
 clear hD hG1 hl1
 go_enter Tryd.func21, Tryd.ntmps21
 go_wp2_with fail
 generalize w.alloc (.cells #[.int .i64 0, .int .i64 1, .int .i64 2, .int .i64 3, .int .i64 24, .int .i64 65535] 3) = w1 at hd1 NX ⊢
 refine NX.out.mono ?_
 rintro e w2 ⟨r, rfl, hr, hd2⟩
 have hd := hd1.trans hd2
 have K0 : IntKind.i64.wrap (1 + (r : Int)) = 1 + (r : Int) := IntWalk.i64_in _ (by omega)
 have HR0 := Hh (show r ≤ 2 by omega)
 clear NX hd1 hd2 hr
 go_wp2_with fail
 go_loopw [3, 4, 5] (fun v3 v4 v5 wr => ∃ (k : Nat) (Hr : Snap) (VA : Option Addr) (vc vn : Nat) (l : List Int) (AA : Option Addr) (ac an : Nat) (al : List Int), v5 = .int .i64 (k : Int) ∧ v4 = .slice VA vn vc ∧ vn = l.length ∧ v3 = .slice AA an ac ∧ an = al.length ∧ k ≤ 3 ∧ k + 3 ≤ an ∧ an ≤ 6 ∧ l.length + k ≤ 3 ∧ Dealt w H wr Hr g ∧ IsRow lieI Hr AA ac al ∧ OwnX lieI 3 wr w.heap.size (.slice VA vn vc) Hr l ∧ (∀ q, (Value.slice VA vn vc).ownBlock = some q → Hr q = none)) (fun _ _ v5 _ => (intOf v5).toNat)
 case atStart => exact ⟨1 + r, H1, none, 0, 0, [], _, 6, 6, [0, 1, 2, 3, 24, 65535], by first | (rw [show ((1 + r : Nat) : Int) = 1 + (r : Int) by omega]) | go_num, rfl, rfl, rfl, rfl, by have := HR0.out; omega, by have := HR0.out; omega, by omega, by have := HR0.out; simp; omega, hd, hr1, OwnX.nil _ _ _ _ _, by intro q hq; simp [Value.ownBlock] at hq⟩
 case round =>
  clear hd hr1 K0 HR0
  obtain ⟨k, Hr, VA, vc, vn, l, AA, ac, an, al, rfl, rfl, rfl, rfl, hal, hk3, hkan, han6, hlk, hdr, har, hOr, hnr⟩ := hrel
  have HK := Hh (show k ≤ 3 ∧ k + 3 ≤ an ∧ an ≤ 6 ∧ l.length + k ≤ 3 ∧ an = al.length from ⟨hk3, hkan, han6, hlk, hal⟩)
  clear hk3 hkan han6 hlk hal
  by_cases h0 : 0 < k
  ·have hki : (0 : Int) < (k : Int) := by omega
   have hkd : decide ((0 : Int) < (k : Int)) = true := decide_eq_true hki
   have hkn : decide (0 < k) = true := decide_eq_true h0
   have KM : IntKind.i64.wrap ((k : Int) - 1) = (k : Int) - 1 := IntWalk.i64_in _ (by have := HK.out; omega)
   have NX := Hh (deck_Next wr hdr.deck (an : Int) (by have := HK.out; omega) (by have := HK.out; omega))
   have H0 := Hh h0
   clear h0
   go_wp2_with fail
   refine NX.out.mono ?_
   rintro e w3 ⟨q, rfl, hq, hd3⟩
   have hd := hdr.trans hd3
   have hO3 := hOr.dealt hd3 hgl
   have hqa : q < an := by omega
   obtain ⟨b, off, rfl, hatH⟩ := rowI_at har (by have := HK.out; omega)
   have HAC := Hh har.le
   have q0 := hd.holds.cell (hatH q (by have := HK.out; omega))
   have HAT := Hh hatH
   obtain ⟨v, hv⟩ : ∃ v, al.getD q 0 = v := ⟨_, rfl⟩
   rw [hv] at q0
   have y3 : (q : Int) ≤ (ac : Int) := by have := HAC.out; have := HK.out; omega
   have y4 : (0 : Int) ≤ (q : Int) := by omega
   have y5 : (an : Int) ≤ (ac : Int) := by have := HAC.out; have := HK.out; omega
   have HQ := Hh hqa
   have HSZ := Hh (show g < w3.heap.size from hd.deck.deck.lt)
   have hd4 := hd.alloc (.cells #[.int .i64 v] 3)
   have hO4 := hO3.alloc (.cells #[.int .i64 v] 3)
   have hq' : (q : Int) < (an : Int) := by omega
   clear hdr hOr hd3 hO3 NX hv hq hqa hatH hd har
   go_wp2_with (at_builtin; refine stop_in ?_)
   unfold Stopped
   refine OwnX.append rfl (.tmp 19) (.tmp 24) 22 rfl Tryd.underlying22 rfl (by omega) info_int rfl hO4 _ 1 _ [.int .i64 v] [v] rfl rfl (RowC.one rfl) (Src.new _ _ _ _ rfl _ rfl) (by have := HK.out; simp; omega) hd4.size fun v' w6 hO6 hg6 hat6 => ?_
   obtain ⟨VA', vc', rfl, hjunk⟩ := hO6.form
   clear hjunk
   have hn6 := own_hid3 hd4.holds hnr hat6
   have hd6 := hd4.grownRow hnr (fun q hq => (hO4.lt q hq).1) hgl hg6
   have hlen : Hid ((l ++ [v]).length = l.length + 1) := by rw [Hid, List.length_append]; rfl
   obtain ⟨l', hl'⟩ : ∃ l', l ++ [v] = l' := ⟨_, rfl⟩
   rw [hl'] at hO6 hn6 hlen ⊢
   have HL' := Hh (show l'.length + (k - 1) ≤ 3 by have h1 := hlen.out; have h2 := HK.out; have h3 := H0.out; omega)
   obtain ⟨ln, hln⟩ : ∃ ln, l'.length = ln := ⟨_, rfl⟩
   have HLN := Hh hln
   rw [hln] at hO6 hn6 ⊢
   clear hl' hd4 hO4 hg6 hat6 hnr hlen q0 hln
   go_upto_region 8 with fail
   have hd8 := hd6.drew
   have hO8 : OwnX lieI 3 w6.drew w.heap.size (.slice VA' ln vc') Hr l' := hO6
   have hol := Hh (show ∀ q, (Value.slice VA' ln vc').ownBlock = some q → w.heap.size ≤ q ∧ q < w6.heap.size from fun q hq => hO6.lt q hq)
   have hws := Hh hd6.size
   have hn8 := Hh hn6
   have HAT8 := Hh (show ∀ j, j < al.length → w6.drew.cell? ⟨b, off + j, none⟩ = some (.int .i64 (al.getD j 0)) from fun j hj => hd8.holds.cell (HAT.out j hj))
   have HTK := Hh (show (al.take q).length = q ∧ (al.drop (q + 1)).length = an - (q + 1) by rw [List.length_take, List.length_drop]; have := HQ.out; have := HK.out; omega)
   have KP : IntKind.i64.wrap ((q : Int) + 1) = (q : Int) + 1 := IntWalk.i64_in _ (by have := HQ.out; have := HK.out; omega)
   have kt : ((q : Int) + 1).toNat = q + 1 := by omega
   have y1 : (q : Int) + 1 ≤ (an : Int) := by omega
   have y2 : (q : Int) + 1 ≤ (ac : Int) := by omega
   have y0 : (0 : Int) ≤ (q : Int) + 1 := by omega
   clear hd6 hO6 hn6
   by_cases hck : ac = q + 1
   ·have hckT : (ac = q + 1) = True := eq_true hck
    have HS2 := Hh (show ∀ wx, Src wx (some ⟨b, off, none⟩) ((al.drop (q + 1)).map fun v => Value.int .i64 v) from fun wx => by
     rw [List.drop_of_length_le (by have := HAC.out; omega)]; exact Src.nil _ _)
    clear hck
    refine wp_region_ways 9 (fun _ => True) (by kernel_rfl) (trivial) (fun hHeld => ?_)
    refine TkT 0 (v := ?_) rfl ?_ ?_
    rotate_left
    ·intro w s; go_simp; try with_reducible rfl
    try simp only [Act.put, zz1, zz2, zz3, zz4, zz5, zz6]
    refine TkT 1 (v := ?_) rfl ?_ ?_
    rotate_left
    ·intro w s; go_simp; try with_reducible rfl
    try simp only [Act.put, zz1, zz2, zz3, zz4, zz5, zz6]
    refine TkT 2 (v := ?_) rfl ?_ ?_
    rotate_left
    ·intro w s; go_simp; try with_reducible rfl
    try simp only [Act.put, zz1, zz2, zz3, zz4, zz5, zz6]
    refine TkT 4 (v := ?_) rfl ?_ ?_
    rotate_left
    ·intro w s; go_simp; try with_reducible rfl
    try simp only [Act.put, zz1, zz2, zz3, zz4, zz5, zz6]
    refine TkT 5 (v := ?_) rfl ?_ ?_
    rotate_left
    ·intro w s; go_simp; try with_reducible rfl
    try simp only [Act.put, zz1, zz2, zz3, zz4, zz5, zz6]
    refine TkT 6 (v := ?_) rfl ?_ ?_
    rotate_left
    ·intro w s; go_simp; try with_reducible rfl
    try simp only [Act.put, zz1, zz2, zz3, zz4, zz5, zz6]
    refine TkT 7 (v := ?_) rfl ?_ ?_
    rotate_left
    ·intro w s; go_simp; try with_reducible rfl
    try simp only [Act.put, zz1, zz2, zz3, zz4, zz5, zz6]
    refine To 3 rfl fun K hK => ?_
    refine OwnX.append_wp (v := .slice none 0 0) (.const (.slice none 0 0)) (.tmp 28) 22 rfl Tryd.underlying22 rfl (by omega) info_int rfl (OwnX.nil lieI 3 _ _ Hr) (some ⟨b, off, none⟩) q _ _ (al.take q) rfl HTK.out.1.symm (rowC_ints _) (src_take HAT8.out q) (by have := HTK.out; have := HQ.out; have := HK.out; simp only [List.length_nil]; omega) (Nat.le_refl _) fun v5 w9 hO9 hg9 hat9 => ?_
    rw [List.nil_append] at hO9
    have hb9 := grown_none (by simpa [Value.ownBlock] using hg9)
    have hd9 := hd8.grown (Grows.of_below hd8.holds hb9)
    have hOl9 := hO8.below hb9
    have hn9 := own_hid3 hd8.holds (fun q hq => by simp [Value.ownBlock] at hq) hat9
    obtain ⟨NA, nc, rfl, hjunk⟩ := hO9.form
    rw [HTK.out.1] at hO9 hn9 ⊢
    clear hjunk hg9 hat9
    go_simp
    refine hK.out _ _ (fun _ => ?_) (fun hHeld => ?_)
    ·exact trivial
    clear hK K
    have hHeld := hHeld (by decide)
    try simp only [Act.put, zz1, zz2, zz3, zz4, zz5, zz6]
    refine To 8 rfl fun K hK => ?_
    refine OwnX.append_wp (v := .slice NA q nc) (l := al.take q) (.tmp 29) (.tmp 33) 22 rfl Tryd.underlying22 rfl (by omega) info_int rfl hO9 (some ⟨b, off, none⟩) (an - (q + 1)) _ _ (al.drop (q + 1)) rfl HTK.out.2.symm (rowC_ints _) (HS2.out _) (by have := HTK.out; have := HQ.out; have := HK.out; omega) hb9.size fun v6 wA hOA hgA hatA => ?_
    have hdA := hd9.grownRow hn9 (fun k hk => by have h1 := (hO9.lt k hk).1; have h2 := hws.out; simp only [drew_heap] at h1; omega) hgl hgA
    have hOlA := hOl9.kept hgA (by
     cases hv : (Value.slice VA' ln vc').ownBlock with
     | none => exact .inl rfl
     | some z => exact .inr (fun e => by have h1 := (hol.out z hv).2; have h2 := (hO9.lt z e.symm).1; simp only [drew_heap] at h2; omega))
    have hnA := own_hid3 hd9.holds hn9 hatA
    have hlow := Hh (show ∀ k, v6.ownBlock = some k → w6.heap.size ≤ k from fun k hk => by have h1 := (hOA.lt k hk).1; simp only [drew_heap] at h1; exact h1)
    obtain ⟨MA, mc, rfl, hjunk⟩ := hOA.form
    obtain ⟨HB, hlB, hhB, hfB, hzB, hrB⟩ := hOA.snap hdA.holds (fun k hk => hnA k (own_of hk))
    have hdB := hdA.snap hlB hhB hfB (fun k hk => hlow.out k (own_of hk)) hws.out hgl
    have hOB := hOlA.mono hlB
    have hnB : ∀ z, (Value.slice VA' ln vc').ownBlock = some z → HB z = none := fun z hz => snap_keep hfB (hn8.out z hz) (fun e => by have h1 := (hol.out z hz).2; have h2 := hlow.out z (own_of e); omega)
    have HML := Hh (show (al.take q ++ al.drop (q + 1)).length = an - 1 by rw [List.length_append, HTK.out.1, HTK.out.2]; have := HQ.out; omega)
    obtain ⟨al2, hal2⟩ : ∃ al2, al.take q ++ al.drop (q + 1) = al2 := ⟨_, rfl⟩
    rw [hal2] at hrB HML ⊢
    obtain ⟨an2, han2⟩ : ∃ an2, al2.length = an2 := ⟨_, rfl⟩
    have HAN2 := Hh han2
    rw [han2] at HML ⊢
    clear hjunk hgA hatA hdA hOlA hnA hOA hlB hhB hfB hzB hal2 han2 hd9 hOl9 hn9 hO9 hd8 hO8
    go_simp
    refine hK.out _ _ (fun _ => ?_) (fun hHeld => ?_)
    ·exact trivial
    clear hK K
    have hHeld := hHeld (by decide)
    try simp only [Act.put, zz1, zz2, zz3, zz4, zz5, zz6]
    refine To 9 rfl fun K hK => ?_
    go_simp
    refine hK.out _ _ (fun h => absurd rfl h) (fun _ => ?_)
    clear hK K
    try simp only [Act.put, zz1, zz2, zz3, zz4, zz5, zz6]
    refine Ways.done (by kernel_rfl) ?_
    go_wp2_with fail
    go_roundw
    case rel => exact ⟨k - 1, HB, VA', vc', ln, l', _, mc, an2, al2, by rw [show ((k - 1 : Nat) : Int) = (k : Int) - 1 by have := H0.out; omega], rfl, HLN.out.symm, rfl, HAN2.out.symm, by have := HK.out; omega, by have := HK.out; have := HML.out; have := H0.out; omega, by have := HK.out; have := HML.out; omega, HL'.out, hdB, hrB, hOB, hnB⟩
    case measure => have := H0.out; simp [intOf]; omega
   ·have hckF : (ac = q + 1) = False := eq_false hck
    have HS2 := Hh (show ∀ wx, Below w6.drew.heap.size w6.drew wx → Src wx (some ⟨b, off + (q + 1), none⟩) ((al.drop (q + 1)).map fun v => Value.int .i64 v) from fun wx hb => (src_drop HAT8.out (q + 1)).below hb)
    clear hck
    refine wp_region_ways 9 (fun _ => True) (by kernel_rfl) (trivial) (fun hHeld => ?_)
    refine TkT 0 (v := ?_) rfl ?_ ?_
    rotate_left
    ·intro w s; go_simp; try with_reducible rfl
    try simp only [Act.put, zz1, zz2, zz3, zz4, zz5, zz6]
    refine TkT 1 (v := ?_) rfl ?_ ?_
    rotate_left
    ·intro w s; go_simp; try with_reducible rfl
    try simp only [Act.put, zz1, zz2, zz3, zz4, zz5, zz6]
    refine TkT 2 (v := ?_) rfl ?_ ?_
    rotate_left
    ·intro w s; go_simp; try with_reducible rfl
    try simp only [Act.put, zz1, zz2, zz3, zz4, zz5, zz6]
    refine TkT 4 (v := ?_) rfl ?_ ?_
    rotate_left
    ·intro w s; go_simp; try with_reducible rfl
    try simp only [Act.put, zz1, zz2, zz3, zz4, zz5, zz6]
    refine TkT 5 (v := ?_) rfl ?_ ?_
    rotate_left
    ·intro w s; go_simp; try with_reducible rfl
    try simp only [Act.put, zz1, zz2, zz3, zz4, zz5, zz6]
    refine TkT 6 (v := ?_) rfl ?_ ?_
    rotate_left
    ·intro w s; go_simp; try with_reducible rfl
    try simp only [Act.put, zz1, zz2, zz3, zz4, zz5, zz6]
    refine TkT 7 (v := ?_) rfl ?_ ?_
    rotate_left
    ·intro w s; go_simp; try with_reducible rfl
    try simp only [Act.put, zz1, zz2, zz3, zz4, zz5, zz6]
    refine To 3 rfl fun K hK => ?_
    refine OwnX.append_wp (v := .slice none 0 0) (.const (.slice none 0 0)) (.tmp 28) 22 rfl Tryd.underlying22 rfl (by omega) info_int rfl (OwnX.nil lieI 3 _ _ Hr) (some ⟨b, off, none⟩) q _ _ (al.take q) rfl HTK.out.1.symm (rowC_ints _) (src_take HAT8.out q) (by have := HTK.out; have := HQ.out; have := HK.out; simp only [List.length_nil]; omega) (Nat.le_refl _) fun v5 w9 hO9 hg9 hat9 => ?_
    rw [List.nil_append] at hO9
    have hb9 := grown_none (by simpa [Value.ownBlock] using hg9)
    have hd9 := hd8.grown (Grows.of_below hd8.holds hb9)
    have hOl9 := hO8.below hb9
    have hn9 := own_hid3 hd8.holds (fun q hq => by simp [Value.ownBlock] at hq) hat9
    obtain ⟨NA, nc, rfl, hjunk⟩ := hO9.form
    rw [HTK.out.1] at hO9 hn9 ⊢
    clear hjunk hg9 hat9
    go_simp
    refine hK.out _ _ (fun _ => ?_) (fun hHeld => ?_)
    ·exact trivial
    clear hK K
    have hHeld := hHeld (by decide)
    try simp only [Act.put, zz1, zz2, zz3, zz4, zz5, zz6]
    refine To 8 rfl fun K hK => ?_
    refine OwnX.append_wp (v := .slice NA q nc) (l := al.take q) (.tmp 29) (.tmp 33) 22 rfl Tryd.underlying22 rfl (by omega) info_int rfl hO9 (some ⟨b, off + (q + 1), none⟩) (an - (q + 1)) _ _ (al.drop (q + 1)) rfl HTK.out.2.symm (rowC_ints _) (HS2.out _ hb9) (by have := HTK.out; have := HQ.out; have := HK.out; omega) hb9.size fun v6 wA hOA hgA hatA => ?_
    have hdA := hd9.grownRow hn9 (fun k hk => by have h1 := (hO9.lt k hk).1; have h2 := hws.out; simp only [drew_heap] at h1; omega) hgl hgA
    have hOlA := hOl9.kept hgA (by
     cases hv : (Value.slice VA' ln vc').ownBlock with
     | none => exact .inl rfl
     | some z => exact .inr (fun e => by have h1 := (hol.out z hv).2; have h2 := (hO9.lt z e.symm).1; simp only [drew_heap] at h2; omega))
    have hnA := own_hid3 hd9.holds hn9 hatA
    have hlow := Hh (show ∀ k, v6.ownBlock = some k → w6.heap.size ≤ k from fun k hk => by have h1 := (hOA.lt k hk).1; simp only [drew_heap] at h1; exact h1)
    obtain ⟨MA, mc, rfl, hjunk⟩ := hOA.form
    obtain ⟨HB, hlB, hhB, hfB, hzB, hrB⟩ := hOA.snap hdA.holds (fun k hk => hnA k (own_of hk))
    have hdB := hdA.snap hlB hhB hfB (fun k hk => hlow.out k (own_of hk)) hws.out hgl
    have hOB := hOlA.mono hlB
    have hnB : ∀ z, (Value.slice VA' ln vc').ownBlock = some z → HB z = none := fun z hz => snap_keep hfB (hn8.out z hz) (fun e => by have h1 := (hol.out z hz).2; have h2 := hlow.out z (own_of e); omega)
    have HML := Hh (show (al.take q ++ al.drop (q + 1)).length = an - 1 by rw [List.length_append, HTK.out.1, HTK.out.2]; have := HQ.out; omega)
    obtain ⟨al2, hal2⟩ : ∃ al2, al.take q ++ al.drop (q + 1) = al2 := ⟨_, rfl⟩
    rw [hal2] at hrB HML ⊢
    obtain ⟨an2, han2⟩ : ∃ an2, al2.length = an2 := ⟨_, rfl⟩
    have HAN2 := Hh han2
    rw [han2] at HML ⊢
    clear hjunk hgA hatA hdA hOlA hnA hOA hlB hhB hfB hzB hal2 han2 hd9 hOl9 hn9 hO9 hd8 hO8
    go_simp
    refine hK.out _ _ (fun _ => ?_) (fun hHeld => ?_)
    ·exact trivial
    clear hK K
    have hHeld := hHeld (by decide)
    try simp only [Act.put, zz1, zz2, zz3, zz4, zz5, zz6]
    refine To 9 rfl fun K hK => ?_
    go_simp
    refine hK.out _ _ (fun h => absurd rfl h) (fun _ => ?_)
    clear hK K
    try simp only [Act.put, zz1, zz2, zz3, zz4, zz5, zz6]
    refine Ways.done (by kernel_rfl) ?_
    go_wp2_with fail
    go_roundw
    case rel => exact ⟨k - 1, HB, VA', vc', ln, l', _, mc, an2, al2, by rw [show ((k - 1 : Nat) : Int) = (k : Int) - 1 by have := H0.out; omega], rfl, HLN.out.symm, rfl, HAN2.out.symm, by have := HK.out; omega, by have := HK.out; have := HML.out; have := H0.out; omega, by have := HK.out; have := HML.out; omega, HL'.out, hdB, hrB, hOB, hnB⟩
    case measure => have := H0.out; simp [intOf]; omega
  ·have hki : ¬ ((0 : Int) < (k : Int)) := by omega
   have hkd : decide ((0 : Int) < (k : Int)) = false := decide_eq_false hki
   have hkn : decide (0 < k) = false := decide_eq_false h0
   obtain ⟨H5, hl5, hh5, hf5, hz5, hir⟩ := hOr.snap hdr.holds (fun q hq => hnr q (own_of hq))
   have hlow : ∀ q, VA.map (·.block) = some q → w.heap.size ≤ q := fun q hq => (hOr.lt q (own_of hq)).1
   have hdz := hdr.snap hl5 hh5 hf5 hlow (Nat.le_refl _) hgl
   have HLN := Hh (show l.length ≤ 3 by have := HK.out; omega)
   clear hOr hnr hdr hf5 h0 har
   go_wp2_with fail
   go_ret
   exact ⟨VA, vc, l, rfl, HLN.out, H5, hir, hdz⟩
end Go.Proofs.YtlebpackbfcfeaaDoor
