/- squeezed. Walks: the references' left, joine -/
import Derived.Test.YtgcjjhibdbafmaaGreatDoorK06
import Derived.ChangeSlices
import Derived.OpenShut
import Derived.Shelf.Unicode.ValidAny
import Derived.Deep.DeepCutAuto
set_option linter.unusedVariables false
set_option linter.unusedSimpArgs false
set_option maxRecDepth 100000
set_option maxHeartbeats 3200000
namespace Go.Proofs.YtgcjjhibdbafmaaGreatDoor
open Go.RowKit
theorem left_out (x:Itm) (hk:x.kind<0∨8<x.kind) {ba:Option Addr}{bc:Nat}{ia:Option Addr}{ic:Nat}(w:World) (c d:Nat) (hc0:0<c) (hc:c≤65536) :
  Calls Tryz.prog 86 #[itemV x ba bc ia ic,.int .i64 c,.int .i64 d] w fun e w'=>e=.returned (.int .i64 (leftI (leftP x c d)))∧Below w.heap.size w w':=by
 have E:Hid (leftP x c d=none):=left_none (nodeR_out hk);have hci:¬ (c:Int)<1:=by omega
 have b2:(x.kind==2)=false:=by rw[beq_eq_false_iff_ne];omega
 have b3:(x.kind==3)=false:=by rw[beq_eq_false_iff_ne];omega
 have b4:(x.kind==4)=false:=by rw[beq_eq_false_iff_ne];omega
 have b5:(x.kind==5)=false:=by rw[beq_eq_false_iff_ne];omega
 have b6:(x.kind==6)=false:=by rw[beq_eq_false_iff_ne];omega
 rcases hk with hk | hk
 ·go_enter Tryz.func86,Tryz.ntmps86
  go_wp2_with fail
  go_ret
  exact⟨by rw[E.out];rfl,below_box w _⟩
 ·have hk0:¬ x.kind<0:=by omega
  go_enter Tryz.func86,Tryz.ntmps86
  go_wp2_with fail
  go_ret
  exact⟨by rw[E.out];rfl,below_box w _⟩
theorem ref_left (x:Itm):LeftSaid x:=by
 have main:∀ N,∀ x:Itm,cnt x≤N→LeftSaid x:=by
  intro N
  induction N with
  | zero =>
   intro x hx
   have:0<cnt x:=by cases x;rw[cnt];omega
   omega
  | succ N ih =>
   intro x hx H hT k n ba bl bc ia il ic w c d ha hH hc hd
   obtain⟨rfl,rfl,rfl,rfl,hi⟩:=ha.eqs_;have ih':∀ y:Itm,cnt y<cnt x→LeftSaid y:=fun y hy=>ih y (by omega)
   rcases Nat.eq_zero_or_pos c with h0 | h0
   ·subst h0
    exact left_zero x (H:=H) w d
   ·rcases(by omega:(x.kind<0∨8<x.kind)∨x.kind=0∨x.kind=1∨x.kind=2∨x.kind=3∨x.kind=4∨x.kind=5∨x.kind=6∨x.kind=7∨x.kind=8) with h | h | h | h | h | h | h | h | h | h
    ·exact left_out x h w c d h0 hc
    ·exact left_k0 x h hT ih' hi w hH c d h0 hc hd
    ·exact left_k1 x h hT ih' hi w hH c d h0 hc hd
    ·exact left_k2 x h hT ih' hi w hH c d h0 hc hd
    ·exact left_k3 x h hT ih' hi w hH c d h0 hc hd
    ·exact left_k4 x h hT ih' hi w hH c d h0 hc hd
    ·exact left_k5 x h hT ih' hi w hH c d h0 hc hd
    ·exact left_k6 x h hT ih' hi w hH c d h0 hc hd
    ·exact left_k7 x h hT ih' hi w hH c d h0 hc hd
    ·exact left_k8 x h hT ih' hi w hH c d h0 hc hd
 exact main _ x (Nat.le_refl _)
theorem left_valid {x:Itm}{r:Nat}(h:leftP x 256 0=some r):Good x 0∧(encB x).length≤1099511627776:=by
 obtain⟨h1,h2,h3⟩:=left_spec _ _ _ _ h;have:=h1.bytes h2
 exact⟨h1,by omega⟩
theorem ref_Valid {H:Snap}(hT:Tabs H) {k n:Int}{ba:Option Addr}{bl bc:Nat}{ia:Option Addr}{il ic:Nat}{x:Itm}(hx:ItemA H k n ba bl bc ia il ic x) (w:World) (hH:Holds w H) :
  Calls Tryz.prog 57 #[.agg #[.int .i64 k,.int .u64 n,.slice ba bl bc,.slice ia il ic]] w fun e w'=>e=.returned (.bool (validP x))∧Below w.heap.size w w':=by
 obtain⟨rfl,rfl,rfl,rfl,hxi⟩:=hx.eqs_;have hB:=Blk.new w 26 #[.int .i64 x.kind,.int .u64 x.n,.slice ba x.bytes.length bc,.slice ia x.items.length ic];have hb0:=below_box w (itemO x ba bc ia ic);have hH0:=hH.alloc (itemO x ba bc ia ic);have L:=Hh (ref_left x H hT _ _ _ _ _ _ _ _ (w.alloc (itemO x ba bc ia ic)) 256 0 hxi.arg hH0 (by omega) (by omega));have E0:=validR_eq x
 unfold validR at E0
 cases hl:leftP x 256 0 with
 | none =>
  rw[hl]at L E0;have E:Hid (validP x=false):=by rw[Hid,← E0];rfl
  clear hl E0;go_enter Tryz.func57,Tryz.ntmps57
  go_wp2_with fail
  refine L.out.mono ?_
  rintro e w1 ⟨rfl,hb1⟩
  have hbz:=hb0.trans (hb1.mono hb0.size)
  simp only[leftI]
  go_wp2_with fail
  go_ret
  exact⟨by rw[E.out];rfl,hbz⟩
 | some r =>
  rw[hl]at L E0;obtain⟨hg,hle⟩:=left_valid hl;have E:Hid (validP x=decide ((encB x).length≤4096)):=by rw[Hid,← E0];rfl
  have hr0:(0:Int)≤(r:Int):=by omega
  have RW:=Hh (fun w1:World=>fun h1:Holds w1 H=>ref_Raw x H _ _ ba _ bc ia _ ic w1 0 hg hle hxi.arg h1);have HLE:=Hh hle;clear hl E0 hg hle;go_enter Tryz.func57,Tryz.ntmps57
  go_wp2_with fail
  refine L.out.mono ?_
  rintro e w1 ⟨rfl,hb1⟩
  have hB1:=hB.below hb1;have hbz:=hb0.trans (hb1.mono hb0.size);have hH1:=hH0.below hb1 (Nat.le_refl _);have c0:=hB1.cell 0 rfl;have c1:=hB1.cell 1 rfl;have c2:=hB1.cell 2 rfl;have c3:=hB1.cell 3 rfl
  simp only[leftI]
  go_wp2_with fail
  refine(RW.out _ hH1).mono ?_
  rintro e w2 ⟨r2,rfl,hf⟩
  obtain⟨RA,rc,rfl,_⟩:=hf.own.form;have hby:=hbz.trans (hf.2.mono hbz.size);have hle:=HLE.out
  by_cases h4:(encB x).length≤4096
  ·have E1:Hid (validP x=true):=by rw[Hid,E.out,decide_eq_true h4]
   have h4i:((encB x).length:Int)≤4096:=by omega
   generalize (encB x).length=q at *
   clear h4 hf;go_wp2_with fail
   go_ret
   exact⟨by rw[E1.out];rfl,hby⟩
  ·have E1:Hid (validP x=false):=by rw[Hid,E.out,decide_eq_false h4]
   have h4i:¬ ((encB x).length:Int)≤4096:=by omega
   generalize (encB x).length=q at *
   clear h4 hf;go_wp2_with fail
   go_ret
   refine⟨?_,hby⟩
   rw[E1.out];show Ending.returned (Value.bool (decide _))=_
   rw[decide_eq_false (by omega)]
def EncSaidR (w:World) (x:Itm) (e:Ending) (w':World):Prop :=
 (validP x=false∧e=.returned (.tuple #[.slice none 0 0,.int .i64 1])∧Below w.heap.size w w')∨
 (validP x=true∧∃ r,e=.returned (.tuple #[r,.int .i64 0])∧Fresh w (encB x) r w')
theorem ref_Encode {H:Snap}(hT:Tabs H) {k n:Int}{ba:Option Addr}{bl bc:Nat}{ia:Option Addr}{il ic:Nat}{x:Itm}(hx:ItemA H k n ba bl bc ia il ic x) (w:World) (hH:Holds w H) :
  Calls Tryz.prog 65 #[.agg #[.int .i64 k,.int .u64 n,.slice ba bl bc,.slice ia il ic]] w (EncSaidR w x):=by
 obtain⟨rfl,rfl,rfl,rfl,hxi⟩:=hx.eqs_;have hH1:=hH.alloc (itemO x ba bc ia ic);have hb1:=below_box w (itemO x ba bc ia ic);have hB1:=Blk.new w 26 #[.int .i64 x.kind,.int .u64 x.n,.slice ba x.bytes.length bc,.slice ia x.items.length ic];have V:=Hh (ref_Valid hT hxi.arg _ hH1);go_enter Tryz.func65,Tryz.ntmps65
 go_wp2_with fail
 refine V.out.mono ?_
 rintro e w2 ⟨rfl,hb2⟩
 have hB2:=hB1.below hb2;have b0:=hB2.cell 0 rfl;have b1:=hB2.cell 1 rfl;have b2:=hB2.cell 2 rfl;have b3:=hB2.cell 3 rfl;have hH2:=hH1.below hb2 (Nat.le_refl _);have hb:=hb1.trans (hb2.mono hb1.size)
 cases hv:validP x with
 | false =>
  have hv':=Hh hv;clear hv;go_wp2_with fail
  go_ret2
  exact .inl ⟨hv'.out,rfl,hb⟩
 | true =>
  have hg:=(validP_iff x).1 hv;have A:=Hh (ref_Raw x H _ _ ba _ bc ia _ ic w2 0 hg.1 (by omega) hxi.arg hH2);have hv':=Hh hv;clear hv hg;go_wp2_with fail
  refine A.out.mono ?_
  rintro e w3 ⟨r,rfl,hf⟩
  go_wp2_with fail
  go_ret2
  exact .inr ⟨hv'.out,_,rfl,hf.step hb⟩
theorem ref_Int (n:Int) (h1 : -9223372036854775808≤n) (h2:n≤9223372036854775807) {H:Snap}(w:World) (hH:Holds w H) :
  Calls Tryz.prog 40 #[.int .i64 n] w fun e w'=>∃ v,e=.returned v∧Gives w H (intP n) v w':=by
 by_cases h0:n<0
 ·have E:Hid (intP n=.mk 1 (-1-n).toNat [] []∧(-1-n).toNat<18446744073709551616∧-1-n=((-1-n).toNat:Int)):=⟨by rw[intP,if_pos h0],by omega,by omega⟩
  have K1:IntKind.u64.wrap (-1-n) = -1-n:=by rw[IntKind.wrap_u64];omega
  have K0:IntKind.i64.wrap (-1-n) = -1-n:=IntWalk.i64_in _ (by omega);clear h1 h2;go_enter Tryz.func40,Tryz.ntmps40
  go_wp2_with fail
  refine ret_row rfl rfl (Blk.new _ _ _) rfl rfl size_item rfl ?_
  rw[E.out.1]
  exact⟨_,rfl,Gives.plain hH (below_box _ _) (by omega) E.out.2.1 E.out.2.2⟩
 ·have E:Hid (intP n=.mk 0 n.toNat [] []∧n.toNat<18446744073709551616∧n=(n.toNat:Int)):=⟨by rw[intP,if_neg h0],by omega,by omega⟩
  have K1:IntKind.u64.wrap n=n:=by rw[IntKind.wrap_u64];omega
  have hn:=Int.not_lt.1 h0;clear h1 h2 h0;go_enter Tryz.func40,Tryz.ntmps40
  go_wp2_with fail
  refine ret_row rfl rfl (Blk.new _ _ _) rfl rfl size_item rfl ?_
  rw[E.out.1]
  exact⟨_,rfl,Gives.plain hH (below_box _ _) (by omega) E.out.2.1 E.out.2.2⟩
theorem ref_Bytes {A:Option Addr}{n c:Nat}{l:List UInt8}(hn:n=l.length) (hl:l.length≤1099511627776) {H:Snap}(w:World) (hs:Src w A (l.map byteV)) (hH:Holds w H) :
  Calls Tryz.prog 41 #[.slice A n c] w fun e w'=>∃ v,e=.returned v∧Gives w H (.mk 2 0 l []) v w':=by
 have HN:=Hh hn;clear hn;have hs1:=hs.alloc zeroO;go_enter Tryz.func41,Tryz.ntmps41
 go_wp2_with (at_builtin;refine stop_in ?_)
 refine wpList_app_bytes rfl (.const (.slice none 0 0)) (.tmp 3) rfl (w.heap.size+1) (.slice none 0 0) [] rfl (OwnB.nil _ _) A n c l rfl HN.out hs1 (by simp;omega) (by simp) fun v' w1 hO hg _=>?_
 have hf:Fresh (w.alloc zeroO) l v' w1:=⟨by have:=hO.more (base':=(w.alloc zeroO).heap.size) (by simp);simpa [OwnB] using this,grown_none (by simpa [Value.ownBlock] using hg)⟩
 have hB:=(Blk.new w 26 #[.int .i64 0,.int .u64 0,.slice none 0 0,.slice none 0 0]).below hf.2;have HF:=Hh (hf.gives (k:=2) (hH.alloc zeroO) (by omega));obtain⟨A',c',rfl,_⟩:=hf.own.form;clear hO hg hf;go_wp2_with (with_reducible refine stop_store ?_)
 refine stI hB fun w2 hB2 hG2=>?_
 go_wp2_with fail
 refine ret_row rfl rfl hB2 rfl rfl size_item rfl ?_
 exact⟨_,rfl,HF.out.own (below_box _ _) hH hG2 (Nat.le_refl _) (by simp)⟩
theorem ref_Text (s:ByteArray) (hl:s.size≤1099511627776) {H:Snap}(w:World) (hH:Holds w H) :
  Calls Tryz.prog 64 #[.string s] w fun e w'=>∃ v,e=.returned v∧Gives w H (.mk 3 0 s.data.toList []) v w':=by
 obtain⟨g,c,w1,hr,hb,H',hG,hi⟩:=conv_string (hH.alloc zeroO) s hl;have hB:=(Blk.new w 26 #[.int .i64 0,.int .u64 0,.slice none 0 0,.slice none 0 0]).below hb
 have HI:Gives (w.alloc zeroO) H (.mk 3 0 s.data.toList []) (.agg #[.int .i64 3,.int .u64 0,.slice (some ⟨g,0,none⟩) s.size c,.slice none 0 0]) w1:=by
  refine⟨some ⟨g,0,none⟩,c,none,0,H',by simp[itemV,Itm.kind,Itm.n,Itm.bytes,Itm.items],hG, ?_⟩
  rw[IsItem]
  exact⟨⟨by omega,by omega,by omega,Nat.le_refl _,by omega⟩,hi,fun h=>absurd h (by simp)⟩
 have HII:=Hh HI;clear hb hi HI;go_enter Tryz.func64,Tryz.ntmps64
 go_wp2_with (with_reducible refine stop_store ?_)
 refine stI hB fun w2 hB2 hG2=>?_
 go_wp2_with fail
 refine ret_row rfl rfl hB2 rfl rfl size_item rfl ?_
 exact⟨_,rfl,HII.out.own (below_box _ _) hH hG2 (Nat.le_refl _) (by simp)⟩
theorem ref_label (k n:Int) (ba:Option Addr) (bl bc:Nat) (ia:Option Addr) (il ic:Nat) (w:World) :
  Calls Tryz.prog 58 #[.agg #[.int .i64 k,.int .u64 n,.slice ba bl bc,.slice ia il ic]] w fun e w'=>e=.returned (.bool (k==3||((k==0||k==1)&&decide (n≤65535))))∧Below w.heap.size w w':=by
 go_enter Tryz.func58,Tryz.ntmps58
 go_wp2_with fail
 all_goals
  go_ret
  refine⟨?_,below_box _ _⟩
  show Ending.returned (Value.bool _)=_
  simp_all
theorem ref_labelP {H:Snap}{k n:Int}{ba:Option Addr}{bl bc:Nat}{ia:Option Addr}{il ic:Nat}{x:Itm}(hx:ItemA H k n ba bl bc ia il ic x) (w:World) :
  Calls Tryz.prog 58 #[.agg #[.int .i64 k,.int .u64 n,.slice ba bl bc,.slice ia il ic]] w fun e w'=>e=.returned (.bool (labelP x))∧Below w.heap.size w w':=by
 obtain⟨rfl,rfl,rfl,rfl,hxi⟩:=hx.eqs_
 refine(ref_label x.kind x.n ba _ bc ia _ ic w).mono ?_
 rintro e w' ⟨rfl,hb⟩
 refine⟨?_,hb⟩
 rw[labelP,numberP];congr 4
 simp
 omega
structure IsInts (H:Snap) (A:Option Addr) (c:Nat) (l:List Int):Prop where
 le:l.length≤c
 max:c≤9223372036854775807
 row:Row H A (l.map (Value.int .i64))
 bnd:∀ x∈l, -9223372036854775808≤x∧x≤9223372036854775807
theorem IsInts.mono {H K:Snap}{A:Option Addr}{c:Nat}{l:List Int}(h:IsInts H A c l) (hl:H.le K):IsInts K A c l:=⟨h.le,h.max,h.row.mono hl,h.bnd⟩
def Deck (w:World) (g:Nat) (H:Snap):Prop:=∃ (A:Option Addr) (c:Nat) (l:List Int) (k:Nat),Blk w g 69 #[.slice A l.length c,.int .i64 k]∧IsInts H A c l∧k≤l.length
theorem Deck.mono {w:World}{g:Nat}{H K:Snap}(h:Deck w g H) (hl:H.le K):Deck w g K:=by
 obtain⟨A,c,l,k,h1,h2,h3⟩:=h
 exact⟨A,c,l,k,h1,h2.mono hl,h3⟩
theorem Deck.below {w w':World}{g:Nat}{H:Snap}(h:Deck w g H) (hb:Below w.heap.size w w'):Deck w' g H:=by
 obtain⟨A,c,l,k,h1,h2,h3⟩:=h
 exact⟨A,c,l,k,h1.below hb,h2,h3⟩
theorem Deck.lt {w:World}{g:Nat}{H:Snap}(h:Deck w g H):g<w.heap.size:=by
 obtain⟨A,c,l,k,h1,h2,h3⟩:=h
 exact h1.lt
def modP (v n:Int):Int:=if v.tmod n<0 then v.tmod n+n else v.tmod n
theorem modP_bnd (v n:Int) (hn:0<n):0≤modP v n∧modP v n<n:=by
 have h1:=Int.tmod_lt_of_pos v hn;have h2 : -n<v.tmod n:=by have:=Int.tmod_lt_of_pos (-v) hn;rw[Int.neg_tmod]at this;omega
 unfold modP
 split <;> omega
theorem mk_Mod (v n:Int) (hn:0<n) (hn2:n≤1099511627776) (w:World) :
  Calls Tryz.prog 31 #[.int .i64 v,.int .i64 n] w fun e w'=>e=.returned (.int .i64 (modP v n))∧w=w':=by
 have h1:=Int.tmod_lt_of_pos v hn;have h2 : -n<v.tmod n:=by have:=Int.tmod_lt_of_pos (-v) hn;rw[Int.neg_tmod]at this;omega
 have hn0:(n==0)=false:=by rw[beq_eq_false_iff_ne];omega
 have hn1:(n=0)=False:=eq_false (by omega);have K1:IntKind.i64.wrap (v.tmod n)=v.tmod n:=IntWalk.i64_in _ (by omega)
 by_cases h0:v.tmod n<0
 ·have E:Hid (modP v n=v.tmod n+n):=by rw[Hid,modP,if_pos h0]
  go_enter Tryz.func31,Tryz.ntmps31
  go_wp2_with fail
  go_ret
  exact⟨by rw[E.out];rfl,rfl⟩
 ·have E:Hid (modP v n=v.tmod n):=by rw[Hid,modP,if_neg h0]
  go_enter Tryz.func31,Tryz.ntmps31
  go_wp2_with fail
  go_ret
  exact⟨by rw[E.out];rfl,rfl⟩
theorem mk_Short (A:Option Addr) (n c:Nat) (w:World) :
  Calls Tryz.prog 13 #[.slice A n c] w fun e w'=>e=.returned (.bool (decide (n≤600)))∧w=w':=by
 have E:Hid (decide ((n:Int)≤600)=decide (n≤600)):=by rw[Hid,Bool.eq_iff_iff,decide_eq_true_eq,decide_eq_true_eq];omega
 go_enter Tryz.func13,Tryz.ntmps13
 go_wp2_with fail
 go_ret
 exact⟨by rw[← E.out];rfl,rfl⟩
theorem mk_New {H:Snap}{A:Option Addr}{c:Nat}{l:List Int}(hl:IsInts H A c l) (w:World) :
  Calls Tryz.prog 17 #[.slice A l.length c] w fun e w'=>e=.returned (.pointer (some ⟨w.heap.size,0,none⟩))∧Deck w' w.heap.size H∧Below w.heap.size w w':=by
 have hB:=Blk.new w 69 #[.slice A l.length c,.int .i64 0];have hb:=below_box w (.cells #[.slice A l.length c,.int .i64 0] 69);have HL:=Hh hl;clear hl;go_enter Tryz.func17,Tryz.ntmps17
 go_wp2_with fail
 go_ret
 exact⟨rfl,⟨A,c,l,0,hB,HL.out,Nat.zero_le _⟩,hb⟩
theorem size_int:(Tryz.prog.info? 3).map (·.size)=some 1:=by kernel_rfl
theorem mk_Next {H:Snap}{g:Nat}(w:World) (hD:Deck w g H) (hH:Holds w H) (hg:H g=none) (n:Int) (hn:0<n) (hn2:n≤1099511627776) :
  Calls Tryz.prog 18 #[.pointer (some ⟨g,0,none⟩),.int .i64 n] w fun e w'=>∃ r:Int,e=.returned (.int .i64 r)∧0≤r∧r<n∧Deck w' g H∧w.grownBy w' (some g):=by
 obtain⟨A,c,l,k,hB,hl,hk⟩:=hD;have hc:=hl.max;have hle:=hl.le;have HL:=Hh hl;have hBx:=hB.drew;clear hl;have hkm:(k:Int)+1≤9223372036854775807∨l.length≤k:=by omega
 have HKM:=Hh hkm;have HN2:=Hh hn2;clear hc hle hkm hn2;go_enter Tryz.func18,Tryz.ntmps18
 go_upto_region 1 with fail
 refine wp_region_ways 9 (fun w'=>w'.cell? ⟨g,0,none⟩=some (.slice A l.length c)∧w'.cell? ⟨g,1,none⟩=some (.int .i64 k)) (by kernel_rfl) (⟨hBx.cell 0 rfl,hBx.cell 1 rfl⟩) (fun hHeld=>?_)
 refine Tk 0 rfl hHeld ?_
 refine Tk 1 rfl hHeld ?_
 refine Tk 2 rfl hHeld ?_
 refine Tk 3 rfl hHeld ?_
 refine Tk 4 rfl hHeld ?_
 refine Tk 5 rfl hHeld ?_
 refine Tk 6 rfl hHeld ?_
 refine Tk 7 rfl hHeld ?_
 refine Tk 8 rfl hHeld ?_
 refine To 9 rfl fun K hK=>?_
 go_simp
 refine Kz hK ?_
 clear hK K
 refine Wd ?_
 clear hHeld
 by_cases hlt:k<l.length
 ·have hki:¬ (l.length:Int)≤k:=by omega
  have c1:=hBx.cell 1 rfl;have hk1:(k:Int)+1≤9223372036854775807:=by have:=HKM.out;omega
  have hw1:IntKind.i64.wrap ((k:Int)+1)=(k:Int)+1:=IntWalk.i64_in _ (by omega);clear hk1;go_wp2_with (with_reducible refine stop_store ?_)
  refine wpList_store_cell rfl _ _ _ rfl rfl g 1 (.int .i64 ((k:Int)+1)) rfl rfl _ _ hBx size_int (by simp) rfl fun w2 hB2 hG2=>?_
  obtain⟨ib,io,rfl,hcell⟩:=HL.out.row (by intro h;rw[List.map_eq_nil_iff]at h;subst h;simp at hlt);have hG2:=grown_step (grown_drew (grown_refl w (some g))) hG2 (.inl rfl);have hH2:Holds w2 H:=hH.grown hG2 (by rintro q ⟨⟩;exact hg);have hx:=hcell k (.int .i64 l[k]) (by simp[hlt]);have hB3:Blk w2 g 69 #[.slice (some ⟨ib,io,none⟩) l.length c,.int .i64 ((k:Int)+1)]:=hB2;have MD:=Hh (fun w3:World=>mk_Mod l[k] n hn HN2.out w3);have hbn:=modP_bnd l[k] n hn
  generalize l[k]'hlt=x at *
  have hHx:=hH2.drew;have hBy:=hB3.drew;have hG3:=grown_drew hG2;have hki2:(k:Int)<l.length:=by omega
  have hs1:IntKind.i64.wrap ((k:Int)+1-1)=(k:Int):=by rw[show(k:Int)+1-1=k by omega];exact IntWalk.i64_in _ (by have:=HKM.out;omega)
  have hs3:IntKind.i64.wrap (k:Int)=(k:Int):=IntWalk.i64_in _ (by have:=HKM.out;omega);have hk0:(0:Int)≤k:=by omega
  have HBN:=Hh hbn;clear hB2 hG2 hH2 c1 hBx hB hcell hbn hki;go_upto_region 4 with fail
  refine wp_region_ways 13 (fun w'=>w'.cell? ⟨g,0,none⟩=some (.slice (some ⟨ib,io,none⟩) l.length c)∧w'.cell? ⟨g,1,none⟩=some (.int .i64 ((k:Int)+1))∧w'.cell? ⟨ib,io+k,none⟩=some (.int .i64 x)) (by kernel_rfl) (⟨hBy.cell 0 rfl,hBy.cell 1 rfl,hHx.cell hx⟩) (fun hHeld=>?_)
  refine Tk 0 rfl hHeld ?_
  refine Tk 1 rfl hHeld ?_
  refine Tk 2 rfl hHeld ?_
  refine Tk 3 rfl hHeld ?_
  refine Tk 4 rfl hHeld ?_
  refine Tk 5 rfl hHeld ?_
  refine Tk 6 rfl hHeld ?_
  refine Tk 7 rfl hHeld ?_
  refine Tk 8 rfl hHeld ?_
  refine Tk 9 rfl hHeld ?_
  refine Tk 10 rfl hHeld ?_
  refine Tk 11 rfl hHeld ?_
  refine To 12 rfl fun K hK=>?_
  go_simp
  refine(MD.out _).mono ?_
  rintro e w5 ⟨rfl,rfl⟩
  refine Ko hK ?_ fun hHeld=>?_
  ·exact⟨hBy.cell 0 rfl,hBy.cell 1 rfl,hHx.cell hx⟩
  clear hK K
  refine To 13 rfl fun K hK=>?_
  go_simp
  refine Kz hK ?_
  clear hK K
  refine Wd ?_
  clear hHeld;go_wp2_with fail
  go_ret
  exact⟨_,rfl,HBN.out.1,HBN.out.2,⟨_,c,l,k+1,hBy,HL.out,by omega⟩,hG3⟩
 ·have hki:(l.length:Int)≤k:=by omega
  go_wp2_with fail
  go_ret
  exact⟨0,rfl,by omega,hn,⟨A,c,l,k,hBx,HL.out,hk⟩,grown_drew (grown_refl w _)⟩
def heapS (W:World):Snap:=fun b=>W.heap[b]?
theorem heapS_cell (W:World) (a:Addr):(heapS W).cell? a=W.cell? a:=rfl
theorem heapS_holds (W:World):Holds W (heapS W):=fun _ _ h=>h
theorem heapS_tabs {W:World}(h:Lib.Utf8Tabs 0 1 W):Tabs (heapS W):=fun _ hw =>
 ⟨fun c hc=>hw.cell (h.1 c hc),fun i hi=>⟨hw.cell (h.2 i hi).1,hw.cell (h.2 i hi).2⟩⟩
theorem wf_i64_bnd {n:Int}(h:(Lit.int .i64 n).wf=true) : -9223372036854775808≤n∧n≤9223372036854775807:=by
 simp[Lit.wf,IntKind.min,IntKind.max,IntKind.signed,IntKind.bits]at h
 omega
theorem wf_u8_bnd {n:Int}(h:(Lit.int .u8 n).wf=true):0≤n∧n<256:=by
 simp[Lit.wf,IntKind.min,IntKind.max,IntKind.signed,IntKind.bits]at h
 omega
theorem ints_heap {W:World}{a:Addr}{len cap:Nat}{zs:List Int}(hl:len≤cap) (hm:cap≤maxLen) (hz:len≤zs.length)
  (hc:∀ i,i<zs.length→W.cell? (a.add i)=some (.int .i64 (zs.getD i 0))) (wf:∀ n∈zs,(Lit.int .i64 n).wf=true):IsInts (heapS W) (some a) cap (zs.take len)∧(zs.take len).length=len:=by
 have hlen:(zs.take len).length=len:=by rw[List.length_take];omega
 refine⟨⟨by rw[hlen];exact hl,by simpa [maxLen] using hm,fun hne=>?_,fun x hx=>wf_i64_bnd (wf x (List.mem_of_mem_take hx))⟩,hlen⟩
 have h0:0<len:=by
  rcases Nat.eq_zero_or_pos len with h | h
  ·subst h;simp at hne
  ·exact h
 obtain⟨b,off,rfl,hcell⟩:=ints_at hc (by omega)
 refine⟨b,off,rfl,fun j v hj=>?_⟩
 rw[List.getElem?_map]at hj;obtain⟨x,hx,rfl⟩:=Option.map_eq_some_iff.1 hj;have hjl:=(List.getElem?_eq_some_iff.1 hx).1;rw[hlen]at hjl;rw[heapS_cell,hcell j (by omega)];rw[List.getElem?_take,if_pos hjl]at hx
 simp[List.getD,hx]
def bytesOfInts (zs:List Int):List UInt8:=zs.map fun n=>u8 n.toNat
theorem bytes_heap {W:World}{a:Addr}{len cap:Nat}{zs:List Int}(hl:len≤cap) (hm:cap≤maxLen) (hz:len≤zs.length)
  (hc:∀ i,i<zs.length→W.cell? (a.add i)=some (.int .u8 (zs.getD i 0))) (wf:∀ n∈zs,(Lit.int .u8 n).wf=true):IsBytes (heapS W) (some a) cap (bytesOfInts (zs.take len))∧(bytesOfInts (zs.take len)).length=len:=by
 have hlen:(bytesOfInts (zs.take len)).length=len:=by rw[bytesOfInts,List.length_map,List.length_take];omega
 refine⟨⟨by rw[hlen];exact hl,by simpa [maxLen] using hm,fun hne=>?_⟩,hlen⟩
 have h0:0<len:=by
  rcases Nat.eq_zero_or_pos len with h | h
  ·subst h;simp[bytesOfInts]at hne
  ·exact h
 obtain⟨b,off,rfl,hcell⟩:=ints_at hc (by omega)
 refine⟨b,off,rfl,fun j v hj=>?_⟩
 rw[bytesOfInts,List.map_map,List.getElem?_map]at hj;obtain⟨x,hx,rfl⟩:=Option.map_eq_some_iff.1 hj;rw[List.getElem?_take]at hx
 split at hx
 ·rename_i hjl
  have hb:=wf_u8_bnd (wf x (List.mem_of_getElem? hx));rw[heapS_cell,hcell j (by omega)]
  simp[List.getD,hx,byteV,u8_toNat]
  omega
 ·cases hx
end Go.Proofs.YtgcjjhibdbafmaaGreatDoor
namespace Go.Proofs.YtgcjjhibdbafmaaGreatDoor
open Go.RowKit Go.Shelf
def utfRen:Go.Shelf.Ren:=⟨fun | 196=>36 | 259=>70 | n=>n,
 fun | 0=>0 | 3=>3 | 4=>4 | 5=>5 | 9=>9 | 12=>12 | 46=>97 | 53=>22 | 119=>93 | 138=>95 | 139=>96 | n=>n,
 fun | 3=>0 | 4=>1 | n=>n⟩
theorem utfLays:Lays.n196 Tryz.prog utfRen where
 mixed:=by kernel_rfl
 f196:=Tryz.func36.trans (congrArg some (by kernel_rfl))
 f259:=Tryz.func70.trans (congrArg some (by kernel_rfl))
 t0:=Tryz.underlying0
 a0:=Tryz.isAgg0
 z0:=Tryz.sizeOf0
 v0:=Tryz.zeroValue0
 t3:=Tryz.underlying3
 a3:=Tryz.isAgg3
 z3:=Tryz.sizeOf3
 v3:=Tryz.zeroValue3
 t4:=Tryz.underlying4
 a4:=Tryz.isAgg4
 z4:=Tryz.sizeOf4
 v4:=Tryz.zeroValue4
 t5:=Tryz.underlying5
 a5:=Tryz.isAgg5
 z5:=Tryz.sizeOf5
 v5:=Tryz.zeroValue5
 t9:=Tryz.underlying9
 a9:=Tryz.isAgg9
 z9:=Tryz.sizeOf9
 v9:=Tryz.zeroValue9
 t12:=Tryz.underlying12
 a12:=Tryz.isAgg12
 z12:=Tryz.sizeOf12
 v12:=Tryz.zeroValue12
 t46:=Tryz.underlying97
 a46:=Tryz.isAgg97
 z46:=Tryz.sizeOf97
 v46:=Tryz.zeroValue97
 t53:=Tryz.underlying22
 a53:=Tryz.isAgg22
 z53:=Tryz.sizeOf22
 v53:=Tryz.zeroValue22
 t119:=Tryz.underlying93
 a119:=Tryz.isAgg93
 z119:=Tryz.sizeOf93
 t138:=Tryz.underlying95
 a138:=Tryz.isAgg95
 z138:=Tryz.sizeOf95
 v138:=Tryz.zeroValue95
 t139:=Tryz.underlying96
 a139:=Tryz.isAgg96
 z139:=Tryz.sizeOf96
 v139:=Tryz.zeroValue96
 g3:=by kernel_rfl
 g4:=by kernel_rfl
theorem utf8_ValidString {H:Snap}(hT:Tabs H) (w:World) (hH:Holds w H) (s:ByteArray) (hs:s.size≤9223372036854775807) :
  Calls Tryz.prog 36 #[.string s] w fun e w'=>e=.returned (.bool (Lib.validD s.data.toList))∧Below w.heap.size w w' :=
 Any.utf8_ValidString utfLays s w hs (hT w hH)
end Go.Proofs.YtgcjjhibdbafmaaGreatDoor
namespace Go.Proofs.YtgcjjhibdbafmaaGreatDoor
open Go.RowKit
abbrev Chk (w:World) (g:Nat) (i s:Int):Prop:=Blk w g 102 #[.int .i64 i,.int .i64 s]
theorem spend_float {H:Snap}{x:Itm}{ba:Option Addr}{bc:Nat}{ia:Option Addr}{ic:Nat}(hx:IsItem H ba bc ia ic x) (w:World) (g:Nat) (i s:Int) (hc:Chk w g i s) (h8:x.kind=8) (hs0:0≤s) (hs1:s≤1099511627776) :
  Calls Tryz.prog 98 #[.pointer (some ⟨g,0,none⟩),itemV x ba bc ia ic] w fun e w'=>e=.returned (.bool (decide (s+spendP x≤4096)))∧Chk w' g i (s+spendP x)∧w.grownBy w' (some g):=by
 have hfl:=floatB_length x.n;have E:Hid (spendP x=(floatB x.n).length):=by simp[Hid,spendP,h8]
 obtain⟨_,_,hn,_⟩:=hx.bounds;have HN:U64 x.n:=⟨by omega,by omega⟩
 have hlt:=hc.lt;have hB:=Blk.new w 26 #[.int .i64 8,.int .u64 x.n,.slice ba x.bytes.length bc,.slice ia x.items.length ic];have hC:=hc.alloc (.cells #[.int .i64 8,.int .u64 x.n,.slice ba x.bytes.length bc,.slice ia x.items.length ic] 26);clear hx hn;go_enter Tryz.func98,Tryz.ntmps98
 go_wp2_with fail
 refine wp_region_ways 11 (fun w'=>w'.cell? ⟨g,1,none⟩=some (.int .i64 s)∧w'.cell? ⟨w.heap.size,1,none⟩=some (.int .u64 x.n)) (by kernel_rfl) (⟨hC.cell 1 rfl,hB.cell 1 rfl⟩) (fun hHeld=>?_)
 refine Tk 0 rfl hHeld ?_
 refine Tk 1 rfl hHeld ?_
 refine Tk 2 rfl hHeld ?_
 refine Tk 3 rfl hHeld ?_
 refine Tk 4 rfl hHeld ?_
 refine Tk 5 rfl hHeld ?_
 refine To 6 rfl fun K hK=>?_
 go_simp
 refine(cbor_float _ _ HN.1 HN.2).mono ?_
 rintro e w1 ⟨r,rfl,hf⟩
 obtain⟨A,c,rfl,_,_,_⟩:=hf.own.form;have hC1:=hC.drew.below hf.2
 refine Ko hK ?_ fun hHeld=>?_
 ·exact⟨hC1.cell 1 rfl,(hB.drew.below hf.2).cell 1 rfl⟩
 clear hK K
 refine Tk 7 rfl hHeld ?_
 refine Tk 8 rfl hHeld ?_
 refine Tk 9 rfl hHeld ?_
 refine Tk 10 rfl hHeld ?_
 refine To 11 rfl fun K hK=>?_
 have d1:=hC1.cell 1 rfl;have d2:=hC1.frozen 1;go_simp
 refine Kz hK ?_
 clear hK K
 refine Wd ?_
 all_goals
  have hw:Hid (IntKind.i64.wrap (s+((floatB x.n).length:Int))=s+(spendP x:Int)):=by rw[Hid,E.out];exact IntWalk.i64_in _ (by omega)
  have R:Chk (w1.setCell ⟨g,1,none⟩ (.int .i64 (s+(spendP x:Int)))) g i (s+(spendP x:Int))∧w.grownBy (w1.setCell ⟨g,1,none⟩ (.int .i64 (s+(spendP x:Int)))) (some g) :=
   ⟨(hC.drew.below hf.2).set_ 1 _,grown_set (grown_below (grown_drew (grown_alloc (grown_refl w _) _)) hf.2) (.inl rfl) _⟩
  rw[hw.out];have e1:=R.1.cell 1 rfl;clear d1 d2;go_wp2
  go_ret
  exact⟨rfl,R⟩
theorem spend_simple {x:Itm}{ba:Option Addr}{bc:Nat}{ia:Option Addr}{ic:Nat}(w:World) (g:Nat) (i s:Int) (hc:Chk w g i s) (h7:x.kind=7) (hs0:0≤s) (hs1:s≤1099511627776) :
  Calls Tryz.prog 98 #[.pointer (some ⟨g,0,none⟩),itemV x ba bc ia ic] w fun e w'=>e=.returned (.bool (decide (s+spendP x≤4096)))∧Chk w' g i (s+spendP x)∧w.grownBy w' (some g):=by
 have hlt:=hc.lt;have c1:=hc.cell 1 rfl;have f1:=hc.frozen 1
 by_cases h24:(24:Int)≤(x.n:Int)
 ·have E:Hid ((spendP x:Int)=2):=by
   have:24≤x.n:=by omega
   simp[Hid,spendP,h7,this]
  have d1:=(hc.set_ 1 (.int .i64 (s+1))).cell 1 rfl;have g1:=(hc.set_ 1 (.int .i64 (s+1))).frozen 1;go_enter Tryz.func98,Tryz.ntmps98
  go_wp2
  go_ret
  have e:s+1+1=s+(spendP x:Int):=by rw[E.out];omega
  rw[← e]
  exact⟨rfl,((hc.set_ 1 _).set_ 1 _).alloc _,grown_alloc (grown_set (grown_set (grown_refl w _) (.inl rfl) _) (.inl rfl) _) _⟩
 ·have E:Hid ((spendP x:Int)=1):=by
   have:¬ 24≤x.n:=by omega
   simp[Hid,spendP,h7,this]
  have d1:=(hc.set_ 1 (.int .i64 (s+1))).cell 1 rfl;go_enter Tryz.func98,Tryz.ntmps98
  go_wp2
  go_ret
  have e:s+1=s+(spendP x:Int):=by rw[E.out]
  rw[← e]
  exact⟨rfl,(hc.set_ 1 _).alloc _,grown_alloc (grown_set (grown_refl w _) (.inl rfl) _) _⟩
theorem spend_more {H:Snap}{x:Itm}{ba:Option Addr}{bc:Nat}{ia:Option Addr}{ic:Nat}(hx:IsItem H ba bc ia ic x) (w:World) (g:Nat) (i s:Int) (hc:Chk w g i s) (h0:0≤x.kind) (h7:x.kind<7) (hs0:0≤s) (hs1:s≤1099511627776) (hbl:x.bytes.length≤1099511627776) :
  Calls Tryz.prog 98 #[.pointer (some ⟨g,0,none⟩),itemV x ba bc ia ic] w fun e w'=>e=.returned (.bool (decide (s+spendP x≤4096)))∧Chk w' g i (s+spendP x)∧w.grownBy w' (some g):=by
 have hlt:=hc.lt
 have hN0:(numP x:Int)<18446744073709551616:=by
  have:=hx.bounds
  unfold numP
  repeat' split
  all_goals omega
 have HN:U64 (numP x):=⟨by omega,hN0⟩
 have hb9:=headB_le x.kind.toNat (numP x);have E:Hid (spendP x=(headB x.kind.toNat (numP x)).length+x.bytes.length):=by rw[Hid,spendP,if_neg (by omega),if_neg (by omega)]
 have b7:(x.kind==7)=false:=by simp;omega
 have b8:(x.kind==8)=false:=by simp;omega
 have hB:=Blk.new w 26 #[.int .i64 x.kind,.int .u64 x.n,.slice ba x.bytes.length bc,.slice ia x.items.length ic];have hC:=hc.alloc (.cells #[.int .i64 x.kind,.int .u64 x.n,.slice ba x.bytes.length bc,.slice ia x.items.length ic] 26);clear hN0;go_enter Tryz.func98,Tryz.ntmps98
 go_wp2_with fail
 refine wp_region_ways 17 (fun w'=>w'.cell? ⟨g,1,none⟩=some (.int .i64 s)∧w'.cell? ⟨w.heap.size,0,none⟩=some (.int .i64 x.kind)∧w'.cell? ⟨w.heap.size,1,none⟩=some (.int .u64 x.n)∧w'.cell? ⟨w.heap.size,2,none⟩=some (.slice ba x.bytes.length bc)∧w'.cell? ⟨w.heap.size,3,none⟩=some (.slice ia x.items.length ic)) (by kernel_rfl) (⟨hC.cell 1 rfl,hB.cell 0 rfl,hB.cell 1 rfl,hB.cell 2 rfl,hB.cell 3 rfl⟩) (fun hHeld=>?_)
 refine Tk 0 rfl hHeld ?_
 refine Tk 1 rfl hHeld ?_
 refine Tk 2 rfl hHeld ?_
 refine Tk 3 rfl hHeld ?_
 refine Tk 4 rfl hHeld ?_
 refine Tk 10 rfl hHeld ?_
 refine Tk 11 rfl hHeld ?_
 refine Tk 12 rfl hHeld ?_
 refine To 5 rfl fun K hK=>?_
 go_simp
 refine(cbor_major hx.arg _ (by omega) (by omega)).mono ?_
 rintro e w1 ⟨rfl,hm⟩
 have hB1:=hB.drew.below hm;have hC1:=hC.drew.below hm
 refine Ko hK ?_ fun hHeld=>?_
 ·exact⟨hC1.cell 1 rfl,hB1.cell 0 rfl,hB1.cell 1 rfl,hB1.cell 2 rfl,hB1.cell 3 rfl⟩
 clear hK K
 refine Tk 6 rfl hHeld ?_
 refine Tk 7 rfl hHeld ?_
 refine To 8 rfl fun K hK=>?_
 go_simp
 refine(cbor_head _ _ _ (by omega) (by omega) (by omega) HN.2).mono ?_
 rintro e w2 ⟨r,rfl,hf⟩
 obtain⟨A,c,rfl,_,_,_⟩:=hf.own.form;have hB2:=hB1.below hf.2;have hC2:=hC1.below hf.2
 refine Ko hK ?_ fun hHeld=>?_
 ·exact⟨hC2.cell 1 rfl,hB2.cell 0 rfl,hB2.cell 1 rfl,hB2.cell 2 rfl,hB2.cell 3 rfl⟩
 clear hK K
 refine Tk 9 rfl hHeld ?_
 refine Tk 13 rfl hHeld ?_
 refine Tk 14 rfl hHeld ?_
 refine Tk 15 rfl hHeld ?_
 refine Tk 16 rfl hHeld ?_
 refine To 17 rfl fun K hK=>?_
 have d1:=hC2.cell 1 rfl;have d2:=hC2.frozen 1;go_simp
 refine Kz hK ?_
 clear hK K
 refine Wd ?_
 have hw:Hid (IntKind.i64.wrap (s+IntKind.i64.wrap (((headB x.kind.toNat (numP x)).length:Int)+(x.bytes.length:Int)))=s+(spendP x:Int)):=by
  rw[Hid,E.out,IntWalk.i64_in (((headB x.kind.toNat (numP x)).length:Int)+(x.bytes.length:Int)) (by omega),IntWalk.i64_in _ (by omega)]
  omega
 have R:Chk (w2.setCell ⟨g,1,none⟩ (.int .i64 (s+(spendP x:Int)))) g i (s+(spendP x:Int))∧w.grownBy (w2.setCell ⟨g,1,none⟩ (.int .i64 (s+(spendP x:Int)))) (some g) :=
  ⟨hC2.set_ 1 _,grown_set (grown_below (grown_below (grown_drew (grown_alloc (grown_refl w _) _)) hm) hf.2) (.inl rfl) _⟩
 rw[Int.toNat_natCast]at *;rw[hw.out];have e1:=R.1.cell 1 rfl;clear d1 d2;go_wp2
 go_ret
 exact⟨rfl,R⟩
theorem cbor_spend {H:Snap}{k n:Int}{ba:Option Addr}{bl bc:Nat}{ia:Option Addr}{il ic:Nat}{x:Itm}(hx:ItemA H k n ba bl bc ia il ic x) (w:World) (g:Nat) (i s:Int) (hc:Chk w g i s)
  (h0:0≤x.kind) (h8:x.kind≤8) (hs0:0≤s) (hs1:s≤1099511627776) (hbl:x.bytes.length≤1099511627776) :
  Calls Tryz.prog 98 #[.pointer (some ⟨g,0,none⟩),.agg #[.int .i64 k,.int .u64 n,.slice ba bl bc,.slice ia il ic]] w
   fun e w'=>e=.returned (.bool (decide (s+spendP x≤4096)))∧Chk w' g i (s+spendP x)∧w.grownBy w' (some g):=by
 obtain⟨rfl,rfl,rfl,rfl,hx⟩:=hx
 by_cases h:x.kind=8
 ·exact spend_float hx w g i s hc h hs0 hs1
 by_cases h7:x.kind=7
 ·exact spend_simple w g i s hc h7 hs0 hs1
 ·exact spend_more hx w g i s hc h0 (by omega) hs0 hs1 hbl
theorem cbor_ascending {H:Snap}(l:List Itm) (b off:Nat) (A:Option Addr) (ic:Nat) (w:World) (hA:0<l.length→A=some ⟨b,off,none⟩∧IsElems H b off l) (hH:Holds w H) (hk:KindsL l)
  (hlen:∀ k (h:k<l.length),(encB l[k]).length≤1099511627776) (n:Nat) (hn:n=l.length) (hnn:n≤1099511627776) :
  Calls Tryz.prog 99 #[.slice A n ic] w fun e w'=>e=.returned (.bool (ascP l))∧Below w.heap.size w w':=by
 obtain⟨ans,hans⟩:∃ b,ascP l=b:=⟨_,rfl⟩
 rw[hans];have HAns:=Hh hans;have HNn:=Hh hn;have HLen:=Hh hlen;have HAA:=Hh hA;clear hans hn hlen hA;go_enter Tryz.func99,Tryz.ntmps99
 go_wp2
 go_loopw [3] (fun i wr=>∃ j:Nat,2≤j∧i=.int .i64 j∧j≤n+2∧ascP (l.drop (j-2))=ans∧Below w.heap.size w wr) (fun i _=>(n+2-intOf i).toNat)
 case atStart=>exact⟨2,Nat.le_refl _,rfl,by omega,by simpa using HAns.out,Below.refl _ _⟩
 case round =>
  obtain⟨j,h2,rfl,hj,hasc,hb⟩:=hrel
  by_cases hlt:j<n
  ·have hn:=HNn.out;obtain⟨hA,hel⟩:=HAA.out (by omega);have hstep:=ascP_drop l j h2 (by omega);obtain⟨y1,y2,y3,y4,p0,p1,p2,p3,hy⟩:=hel.get (j-2) (by omega);obtain⟨z1,z2,z3,z4,q0,q1,q2,q3,hz⟩:=hel.get j (by omega);have hky:=hk.get (j-2) (by omega);have hkz:=hk.get j (by omega);have hly:=HLen.out (j-2) (by omega);have hlz:=HLen.out j (by omega)
   generalize l[j-2]'(by omega)=y at *
   generalize l[j]'(by omega)=z at *
   have hi0:(0:Int)≤(j:Int)-2:=by omega
   have hi1:(j:Int)-2<(n:Int):=by omega
   have hi3:(2:Int)≤(j:Int):=by omega
   have hi2:(j:Int)<(n:Int):=by omega
   subst hA;have HST:=Hh hstep;have HASC:=Hh hasc;have HSZ:Hid (w.heap.size≤wr.heap.size):=hb.size;have hHr:Holds wr H:=hH.below hb (Nat.le_refl _);have hH0:Holds wr.drew H:=hHr.drew;have hw1:IntKind.i64.wrap ((j:Int)-2)=(j:Int)-2:=IntWalk.i64_in _ (by omega);have hw2:((j:Int)-2).toNat=j-2:=by omega
   clear hstep hasc hn hel;go_wp2_with fail
   refine wp_region_ways 12 (fun w'=>w'.cell? ⟨b,off+(j-2)*4,none⟩=some (.int .i64 y.kind)∧w'.cell? ⟨b,off+(j-2)*4+1,none⟩=some (.int .u64 y.n)∧w'.cell? ⟨b,off+(j-2)*4+2,none⟩=some (.slice y1 y.bytes.length y2)∧w'.cell? ⟨b,off+(j-2)*4+3,none⟩=some (.slice y3 y.items.length y4)∧w'.cell? ⟨b,off+j*4,none⟩=some (.int .i64 z.kind)∧w'.cell? ⟨b,off+j*4+1,none⟩=some (.int .u64 z.n)∧w'.cell? ⟨b,off+j*4+2,none⟩=some (.slice z1 z.bytes.length z2)∧w'.cell? ⟨b,off+j*4+3,none⟩=some (.slice z3 z.items.length z4)) (by kernel_rfl) (⟨hHr.cell p0,hHr.cell p1,hHr.cell p2,hHr.cell p3,hHr.cell q0,hHr.cell q1,hHr.cell q2,hHr.cell q3⟩) (fun hHeld=>?_)
   refine Tk 0 rfl hHeld ?_
   refine Tk 1 rfl hHeld ?_
   refine Tk 2 rfl hHeld ?_
   refine Tk 3 rfl hHeld ?_
   refine Tk 4 rfl hHeld ?_
   refine Tk 6 rfl hHeld ?_
   refine Tk 7 rfl hHeld ?_
   refine Tk 8 rfl hHeld ?_
   refine Tk 9 rfl hHeld ?_
   refine To 5 rfl fun K hK=>?_
   go_simp
   refine(cbor_add y H _ _ _ _ _ _ _ _ _ w.heap.size (.slice none 0 0) [] hky hy.arg hH0 (OwnB.nil _ _) HSZ.out (by simp[Value.ownBlock]) (by simpa using hly)).mono ?_
   rintro e w1 ⟨r1,rfl,ho1,hg1,ha1⟩
   obtain⟨A1,c1,rfl,_,_,hs1⟩:=ho1.form;have hb1:=grown_none hg1;have hH1:Holds w1 H:=hH0.below hb1 (Nat.le_refl _);have hz1:=hb1.size
   simp only[List.nil_append]at ho1 hs1
   refine Ko hK ?_ fun hHeld=>?_
   ·exact⟨hH1.cell p0,hH1.cell p1,hH1.cell p2,hH1.cell p3,hH1.cell q0,hH1.cell q1,hH1.cell q2,hH1.cell q3⟩
   clear hK K
   refine To 10 rfl fun K hK=>?_
   go_simp
   refine(cbor_add z H _ _ _ _ _ _ _ _ _ w.heap.size (.slice none 0 0) [] hkz hz.arg hH1 (OwnB.nil _ _) (Nat.le_trans HSZ.out hz1) (by simp[Value.ownBlock]) (by simpa using hlz)).mono ?_
   rintro e w2 ⟨r2,rfl,ho2,hg2,ha2⟩
   obtain⟨A2,c2,rfl,_,_,hs2⟩:=ho2.form;have hb2:=grown_none hg2;have hH2:Holds w2 H:=hH1.below hb2 (Nat.le_refl _)
   simp only[List.nil_append]at ho2 hs2
   refine Ko hK ?_ fun hHeld=>?_
   ·exact⟨hH2.cell p0,hH2.cell p1,hH2.cell p2,hH2.cell p3,hH2.cell q0,hH2.cell q1,hH2.cell q2,hH2.cell q3⟩
   clear hK K
   refine To 11 rfl fun K hK=>?_
   go_simp
   refine(bytes_Compare _ _ _ (encB y) (encB z) _ _ _ _ (by simp) (by simp) (hs1.below hb2) hs2).mono ?_
   rintro e w3 ⟨rfl,rfl⟩
   refine Ko hK ?_ fun hHeld=>?_
   ·exact⟨hH2.cell p0,hH2.cell p1,hH2.cell p2,hH2.cell p3,hH2.cell q0,hH2.cell q1,hH2.cell q2,hH2.cell q3⟩
   clear hK K
   refine To 12 rfl fun K hK=>?_
   go_simp
   refine Kz hK ?_
   clear hK K
   refine Wd ?_
   have hbw:=hb.drew.trans ((hb1.trans (hb2.mono hz1)).mono HSZ.out);have hcmp:=Hh (And.intro HST.out HASC.out);clear HST HASC p0 p1 p2 p3 q0 q1 q2 q3 hHeld ho1 ho2 hg1 hg2 ha1 ha2 hs1 hs2
   generalize hcv:Lib.compareBytes (encB y) (encB z)=cv at *
   by_cases hc:(0:Int)≤cv
   ·have ha:ans=false:=by
     obtain⟨h1,h2⟩:=hcmp.out;rw[← h2,h1];have:¬ cv<0:=by omega
     simp[this]
    have HAF:=Hh ha;clear ha;go_wp2
    go_ret
    exact⟨(by rw[HAF.out];rfl),hbw⟩
   ·have ha:ascP (l.drop j)=ans:=by
     obtain⟨h1,h2⟩:=hcmp.out;rw[← h2,h1];have:cv<0:=by omega
     simp[this]
    have HAF:=Hh ha;clear ha;go_wp2
    go_roundw
    case rel=>exact⟨j+2,by omega,by go_num,by omega,HAF.out,hbw⟩
    case measure=>simp[intOf];omega
  ·have hn:=HNn.out;have hend:=Hh (ascP_end l j h2 (by omega));have HASC:=Hh hasc;clear hasc hn;go_wp2
   go_ret
   exact⟨(by rw[← HASC.out,hend.out];rfl),hb⟩
def Counts (w:World) (g:Nat) (o:Option (Nat×Nat)) (e:Ending) (w':World):Prop :=
 e=.returned (.bool o.isSome)∧w.grownBy w' (some g)∧∃ i s:Int,Chk w' g i s∧∀ p,o=some p→i=(p.1:Int)∧s=(p.2:Int)
def ItemSaid (x:Itm):Prop:=∀ (H:Snap) (k n:Int) (ba:Option Addr) (bl bc:Nat) (ia:Option Addr) (il ic:Nat) (w:World) (g i s lv:Nat),
 Tabs H→ItemA H k n ba bl bc ia il ic x→Holds w H→H g=none→Chk w g i s→i≤256→s≤4096→lv≤8→
 Calls Tryz.prog 77 #[.pointer (some ⟨g,0,none⟩),.agg #[.int .i64 k,.int .u64 n,.slice ba bl bc,.slice ia il ic],.int .i64 (lv:Int)] w (Counts w g (chk x lv i s))
theorem item_many (x:Itm) (i s lv:Nat) (h:256<i+1∨4096<x.bytes.length∨256<x.items.length) {H:Snap}{ba:Option Addr}{bc:Nat}{ia:Option Addr}{ic:Nat}(hx:IsItem H ba bc ia ic x) (w:World) (g:Nat)
  (hc:Chk w g i s) (hi:i≤256):Calls Tryz.prog 77 #[.pointer (some ⟨g,0,none⟩),itemV x ba bc ia ic,.int .i64 (lv:Int)] w (Counts w g (chk x lv i s)):=by
 have E:Hid (chk x lv i s=none):=by rw[Hid,chk_eq,if_pos h]
 obtain⟨_,_,_,hb1,hb2,hi1,hi2⟩:=hx.bounds;have hb:x.bytes.length≤9223372036854775807:=by omega
 have hil:x.items.length≤9223372036854775807:=by omega
 have hlt:=hc.lt;have c0:=hc.cell 0 rfl;have f0:=hc.frozen 0;have c00:=(hc.set_ 0 (.int .i64 ((i:Int)+1))).cell 0 rfl
 have R:=Hh (And.intro ((hc.set_ 0 (.int .i64 ((i:Int)+1))).alloc (.cells #[.int .i64 x.kind,.int .u64 x.n,.slice ba x.bytes.length bc,.slice ia x.items.length ic] 26))
  (grown_alloc (grown_set (grown_refl w (some g)) (.inl (rfl:(⟨g,0,none⟩:Addr).block=g)) (.int .i64 ((i:Int)+1))) (.cells #[.int .i64 x.kind,.int .u64 x.n,.slice ba x.bytes.length bc,.slice ia x.items.length ic] 26)))
 have HH:=Hh h;clear hx hb1 hb2 hi1 hi2 h;go_enter Tryz.func77,Tryz.ntmps77
 go_wp2_with fail
 all_goals first
  | (go_ret;exact⟨by rw[E.out];rfl,R.out.2,_,_,R.out.1,by rw[E.out];intro p hp;cases hp⟩)
  | (exfalso;have:=HH.out;omega)
abbrev boxed (w:World) (g:Nat) (i:Int) (x:Itm) (ba:Option Addr) (bc:Nat) (ia:Option Addr) (ic:Nat):World :=
 (w.setCell ⟨g,0,none⟩ (.int .i64 i)).alloc (.cells #[.int .i64 x.kind,.int .u64 x.n,.slice ba x.bytes.length bc,.slice ia x.items.length ic] 26)
theorem item_plain (x:Itm) (i s lv:Nat) (h1:i+1≤256) (h2:x.bytes.length≤4096) (h3:x.items.length≤256) (hp:isPlain x=true) {H:Snap}(hT:Tabs H) {ba:Option Addr}{bc:Nat}{ia:Option Addr}{ic:Nat}(hx:IsItem H ba bc ia ic x)
  (w:World) (hH:Holds w H) (g:Nat) (hg:H g=none) (hc:Chk w g i s) (hs:s≤4096) :
  Calls Tryz.prog 77 #[.pointer (some ⟨g,0,none⟩),itemV x ba bc ia ic,.int .i64 (lv:Int)] w (Counts w g (chk x lv i s)):=by
 have E:Hid (chk x lv i s=if okPlain x=true∧s+spendP x≤4096 then some (i+1,s+spendP x) else none):=by rw[Hid,chk_eq,if_neg (by omega),if_pos hp]
 have hk:=(isPlain_iff x).1 hp;have hk0:0≤x.kind:=by omega
 have hk8:x.kind≤8:=by omega
 have hlt:=hc.lt;have c0:=hc.cell 0 rfl;have f0:=hc.frozen 0;have c00:=(hc.set_ 0 (.int .i64 ((i:Int)+1))).cell 0 rfl;have hC1:Chk (boxed w g ((i:Int)+1) x ba bc ia ic) g ((i:Int)+1) s:=(hc.set_ 0 _).alloc _
 have hB1:Blk (boxed w g ((i:Int)+1) x ba bc ia ic) w.heap.size 26 #[.int .i64 x.kind,.int .u64 x.n,.slice ba x.bytes.length bc,.slice ia x.items.length ic]:=by
  have:=Blk.new (w.setCell ⟨g,0,none⟩ (.int .i64 ((i:Int)+1))) 26 #[.int .i64 x.kind,.int .u64 x.n,.slice ba x.bytes.length bc,.slice ia x.items.length ic];rwa [show(w.setCell ⟨g,0,none⟩ (.int .i64 ((i:Int)+1))).heap.size=w.heap.size by simp[World.setCell]]at this
 have hG1:w.grownBy (boxed w g ((i:Int)+1) x ba bc ia ic) (some g):=grown_alloc (grown_set (grown_refl w (some g)) (.inl rfl) _) _;have hH1:Holds (boxed w g ((i:Int)+1) x ba bc ia ic) H:=(hH.setCell hg _).alloc _;clear hk;have hxa:=hx.arg;clear hx;go_enter Tryz.func77,Tryz.ntmps77
 go_wp2_with fail
 refine(cbor_plain hT hxa _ hH1).mono ?_
 rintro e w2 ⟨rfl,hb2⟩
 have hC2:=hC1.below hb2;have hB2:=hB1.below hb2;have hG2:=grown_below hG1 hb2;have b0:=hB2.cell 0 rfl;have b1:=hB2.cell 1 rfl;have b2:=hB2.cell 2 rfl;have b3:=hB2.cell 3 rfl
 by_cases ho:okPlain x=true
 ·go_wp2_with fail
  refine(cbor_spend hxa w2 g ((i:Int)+1) s hC2 hk0 hk8 (by omega) (by omega) (by omega)).mono ?_
  rintro e w3 ⟨rfl,hC3,hG3⟩
  have R:=Hh (And.intro (grown_step hG2 hG3 (.inl rfl)) hC3);clear c0 f0 c00 hC1 hB1 hG1 hH1 hC2 hB2 hG2 b0 b1 b2 b3 hC3 hG3;go_wp2_with fail
  go_ret
  refine⟨?_,R.out.1,_,_,R.out.2, ?_⟩
  ·rw[E.out]
   by_cases hle:s+spendP x≤4096
   ·rw[if_pos ⟨ho,hle⟩,show decide ((s:Int)+(spendP x:Int)≤4096)=true by simp;omega];rfl
   ·rw[if_neg (fun h=>hle h.2),show decide ((s:Int)+(spendP x:Int)≤4096)=false by simp;omega];rfl
  ·intro p hp
   rw[E.out]at hp
   split at hp
   ·injection hp with hp
    subst hp
    exact⟨by simp,by simp⟩
   ·cases hp
 ·have ho':okPlain x=false:=by simpa using ho
  clear ho;have R:=Hh (And.intro hG2 hC2);clear c0 f0 c00 hC1 hB1 hG1 hH1 hC2 hB2 hG2 b0 b1 b2 b3;go_wp2_with fail
  go_ret
  have e0:chk x lv i s=none:=by rw[E.out,if_neg (fun h=>by rw[ho']at h;cases h.1)]
  exact⟨by rw[e0];rfl,R.out.1,_,_,R.out.2,by rw[e0];intro p hp;cases hp⟩
theorem item_frame (x:Itm) (i s lv:Nat) (h1:i+1≤256) (h2:x.bytes.length≤4096) (h3:x.items.length≤256) (hp:isPlain x=false) (hf:frameOk x lv=false) {H:Snap}(hT:Tabs H) {ba:Option Addr}{bc:Nat}{ia:Option Addr}{ic:Nat}(hx:IsItem H ba bc ia ic x)
  (w:World) (hH:Holds w H) (g:Nat) (hg:H g=none) (hc:Chk w g i s) (hs:s≤4096) (hlv:lv≤8) :
  Calls Tryz.prog 77 #[.pointer (some ⟨g,0,none⟩),itemV x ba bc ia ic,.int .i64 (lv:Int)] w (Counts w g (chk x lv i s)):=by
 have E:Hid (chk x lv i s=none):=by rw[Hid,chk_eq,if_neg (by omega),if_neg (by simp[hp]),if_pos hf]
 have hlt:=hc.lt;have c0:=hc.cell 0 rfl;have f0:=hc.frozen 0;have c00:=(hc.set_ 0 (.int .i64 ((i:Int)+1))).cell 0 rfl;have hC1:Chk (boxed w g ((i:Int)+1) x ba bc ia ic) g ((i:Int)+1) s:=(hc.set_ 0 _).alloc _
 have hB1:Blk (boxed w g ((i:Int)+1) x ba bc ia ic) w.heap.size 26 #[.int .i64 x.kind,.int .u64 x.n,.slice ba x.bytes.length bc,.slice ia x.items.length ic]:=by
  have:=Blk.new (w.setCell ⟨g,0,none⟩ (.int .i64 ((i:Int)+1))) 26 #[.int .i64 x.kind,.int .u64 x.n,.slice ba x.bytes.length bc,.slice ia x.items.length ic];rwa [show(w.setCell ⟨g,0,none⟩ (.int .i64 ((i:Int)+1))).heap.size=w.heap.size by simp[World.setCell]]at this
 have hG1:w.grownBy (boxed w g ((i:Int)+1) x ba bc ia ic) (some g):=grown_alloc (grown_set (grown_refl w (some g)) (.inl rfl) _) _;have hH1:Holds (boxed w g ((i:Int)+1) x ba bc ia ic) H:=(hH.setCell hg _).alloc _;have hxa:=hx.arg;have HF:=Hh hf;clear hx hf;go_enter Tryz.func77,Tryz.ntmps77
 go_wp2_with fail
 refine(cbor_plain hT hxa _ hH1).mono ?_
 rintro e w2 ⟨rfl,hb2⟩
 have hC2:=hC1.below hb2;have hB2:=hB1.below hb2;have R:=Hh (And.intro (grown_below hG1 hb2) hC2);have b0:=hB2.cell 0 rfl;have b1:=hB2.cell 1 rfl;have b2:=hB2.cell 2 rfl;have b3:=hB2.cell 3 rfl;clear c0 f0 c00 hC1 hB1 hG1 hH1 hC2 hB2 hb2;go_wp2_with fail
 all_goals first
  | (go_ret;exact⟨by rw[E.out];rfl,R.out.1,_,_,R.out.2,by rw[E.out];intro p hp;cases hp⟩)
  | skip
 all_goals try simp only[beq_eq_false_iff_ne,ne_eq]at *
 all_goals exact absurd (show _∧_∧_∧_∧_∧_∧_ from⟨by omega,by omega,by omega,by omega,fun _=>by omega,fun _=>by omega,fun _=>by omega⟩) (of_decide_eq_false HF.out)
theorem item_more (x:Itm) (ih:∀ y:Itm,cnt y<cnt x→ItemSaid y) (i s lv:Nat) (h1:i+1≤256) (h2:x.bytes.length≤4096) (h3:x.items.length≤256) (hp:isPlain x=false) (hf:frameOk x lv=true) {H:Snap}(hT:Tabs H) {ba:Option Addr}{bc:Nat}{ia:Option Addr}{ic:Nat}(hx:IsItem H ba bc ia ic x)
  (w:World) (hH:Holds w H) (g:Nat) (hg:H g=none) (hc:Chk w g i s) (hs:s≤4096) :
  Calls Tryz.prog 77 #[.pointer (some ⟨g,0,none⟩),itemV x ba bc ia ic,.int .i64 (lv:Int)] w (Counts w g (chk x lv i s)):=by
 have E:Hid (chk x lv i s=if 4096<s+spendP x then none else match chkL x.items (lv+1) (i+1) (s+spendP x) with | none=>none | some p=>if x.kind=5∧ascP x.items=false then none else some p):=by
  rw[Hid,chk_eq,if_neg (by omega),if_neg (by simp[hp]),if_neg (by simp[hf])];rfl
 obtain⟨hk4,hk6,hlv8,hbl,hi6,hn0,hm2⟩:=frameOk_spec hf;have hbl0:(x.bytes.length:Int)≤0:=by omega
 have hlt:=hc.lt;have c0:=hc.cell 0 rfl;have f0:=hc.frozen 0;have c00:=(hc.set_ 0 (.int .i64 ((i:Int)+1))).cell 0 rfl;have hC1:Chk (boxed w g ((i:Int)+1) x ba bc ia ic) g ((i:Int)+1) s:=(hc.set_ 0 _).alloc _
 have hB1:Blk (boxed w g ((i:Int)+1) x ba bc ia ic) w.heap.size 26 #[.int .i64 x.kind,.int .u64 x.n,.slice ba x.bytes.length bc,.slice ia x.items.length ic]:=by
  have:=Blk.new (w.setCell ⟨g,0,none⟩ (.int .i64 ((i:Int)+1))) 26 #[.int .i64 x.kind,.int .u64 x.n,.slice ba x.bytes.length bc,.slice ia x.items.length ic];rwa [show(w.setCell ⟨g,0,none⟩ (.int .i64 ((i:Int)+1))).heap.size=w.heap.size by simp[World.setCell]]at this
 have hG1:w.grownBy (boxed w g ((i:Int)+1) x ba bc ia ic) (some g):=grown_alloc (grown_set (grown_refl w (some g)) (.inl rfl) _) _;have hH1:Holds (boxed w g ((i:Int)+1) x ba bc ia ic) H:=(hH.setCell hg _).alloc _;have hxa:=hx.arg
 have tests:((x.kind==6)=true∧(x.kind==5)=false∧(x.kind != 5)=true∧(x.kind != 6)=false∧(x.items.length:Int)≤1∧1≤(x.items.length:Int)∧Hid (¬ x.kind=5))∨
   ((x.kind==6)=false∧(x.kind != 6)=true∧(x.n:Int)≤0∧(x.kind==5)=true∧(x.kind != 5)=false∧((x.items.length:Int)%2==1)=false∧Hid (x.kind=5))∨
   ((x.kind==6)=false∧(x.kind != 6)=true∧(x.n:Int)≤0∧(x.kind==5)=false∧(x.kind != 5)=true∧True∧Hid (¬ x.kind=5)):=by
  rcases(by omega:x.kind=6∨x.kind=5∨x.kind=4) with h | h | h
  ·have:=hi6 h
   exact .inl ⟨by simp[h],by simp[h],by simp[h],by simp[h],by omega,by omega,by rw[Hid];omega⟩
  ·have:=hn0 (by omega);have h2:=hm2 h
   exact .inr (.inl ⟨by simp[h],by simp[h],by omega,by simp[h],by simp[h],by simp;omega,h⟩)
  ·have:=hn0 (by omega)
   exact .inr (.inr ⟨by simp[h],by simp[h],by omega,by simp[h],by simp[h],trivial,by rw[Hid];omega⟩)
 have HX:=Hh hx;clear hx hf hi6 hn0 hm2 hbl;have TT:=Hh tests;clear tests;go_enter Tryz.func77,Tryz.ntmps77
 go_wp2_with fail
 refine(cbor_plain hT hxa _ hH1).mono ?_
 rintro e w2 ⟨rfl,hb2⟩
 have hC2:=hC1.below hb2;have hB2:=hB1.below hb2;have hG2:=grown_below hG1 hb2;have b0:=hB2.cell 0 rfl;have b1:=hB2.cell 1 rfl;have b2:=hB2.cell 2 rfl;have b3:=hB2.cell 3 rfl;go_upto_region 9 with fail
 go_cut [95] (fun s95 wx=>s95=.bool false∧w2=wx)
 case first =>
  rcases TT.out with ⟨t1,t2,t3,t4,t5,t6,t7⟩ | ⟨t1,t2,t3,t4,t5,t6,t7⟩ | ⟨t1,t2,t3,t4,t5,t6,t7⟩
  all_goals
   go_wp2_with fail
   go_meet
   exact⟨rfl,rfl⟩
 case rest =>
  obtain⟨rfl,rfl⟩:=hcut;go_wp2_with fail
  refine(cbor_spend hxa _ g ((i:Int)+1) s hC2 (by omega) (by omega) (by omega) (by omega) (by omega)).mono ?_
  rintro e w3 ⟨rfl,hC3,hG3⟩
  have hB3:=hB2.grown hG3 (by simp;omega);have d0:=hB3.cell 0 rfl;have d3:=hB3.cell 3 rfl;clear b0 b1 b2 b3
  by_cases hle:s+spendP x≤4096
  ·have hdec:decide ((s:Int)+(spendP x:Int)≤4096)=true:=by simp;omega
   go_wp2_with fail
   have E2:Hid (chk x lv i s=match chkL x.items (lv+1) (i+1) (s+spendP x) with | none=>none | some p=>if x.kind=5∧ascP x.items=false then none else some p):=by
    rw[Hid,E.out,if_neg (by omega)]
   have HG3:=Hh (grown_step hG2 hG3 (.inl rfl));have hwz:w.heap.size<w3.heap.size:=hB3.lt;have hH3:Holds w3 H:=(hH1.below hb2 (Nat.le_refl _)).grown hG3 (fun g' h=>by injection h with h;subst h;exact hg);clear hC1 hB1 hG1 hH1 hC2 hB2 hG2 c0 f0 c00 E hdec hb2 hG3;go_loopw [103] (fun vi wr=>∃ (k:Nat) (p:Nat×Nat),k≤x.items.length∧vi=.int .i64 k∧Hid (chkL (x.items.drop k) (lv+1) p.1 p.2=chkL x.items (lv+1) (i+1) (s+spendP x))∧p.1≤256∧p.2≤4096∧Chk wr g p.1 p.2∧w3.grownBy wr (some g)) (fun vi _=>x.items.length-(intOf vi).toNat)
   case atStart=>exact⟨0,(i+1,s+spendP x),Nat.zero_le _,rfl,by simp[Hid],by omega,hle,by simpa using hC3,grown_refl _ _⟩
   case round =>
    obtain⟨k,p,hk,rfl,hdr,hp1,hp2,hCr,hGr⟩:=hrel;have hHr:Holds wr H:=hH3.grown hGr (fun g' h=>by injection h with h;subst h;exact hg)
    by_cases hlt:k<x.items.length
    ·obtain⟨ib,io,hia,hel⟩:=HX.out.items (by omega);obtain⟨eba,ebc,eia,eic,q0,q1,q2,q3,hex⟩:=hel.get k hlt;subst hia;have hlen:(x.items.length:Int)≤256:=by omega
     have p0:=hHr.cell q0;have p1:=hHr.cell q1;have p2:=hHr.cell q2;have p3:=hHr.cell q3;have hdrop:x.items.drop k=x.items[k]::x.items.drop (k+1):=List.drop_eq_getElem_cons hlt
     have IHH:=Hh (ih x.items[k] (cnt_items x k hlt) H _ _ eba _ ebc eia _ eic (wr.alloc (.cells #[.int .i64 x.items[k].kind,.int .u64 x.items[k].n,.slice eba x.items[k].bytes.length ebc,.slice eia x.items[k].items.length eic] 26)) g p.1 p.2 (lv+1)
      hT hex.arg (hHr.alloc _) hg (hCr.alloc _) hp1 hp2 (by omega))
     have HD:=Hh hdrop;have hlv1:((lv+1:Nat):Int)=(lv:Int)+1:=by omega
     rw[hlv1]at IHH;clear hdrop q0 q1 q2 q3 hel d0 d3 hlv1;go_wp2_with fail
     refine IHH.out.mono ?_
     rintro e w4 ⟨rfl,hG4,i4,s4,hC4,heq⟩
     have hG5:=grown_step (grown_alloc hGr (.cells #[.int .i64 x.items[k].kind,.int .u64 x.items[k].n,.slice eba x.items[k].bytes.length ebc,.slice eia x.items[k].items.length eic] 26)) hG4 (.inl rfl)
     cases hq:chk x.items[k] (lv+1) p.1 p.2 with
     | none =>
      have e0:Hid (chk x lv i s=none):=by
       rw[Hid,E2.out,← hdr.out,HD.out,chkL,hq]
      have R:=Hh (And.intro (grown_step HG3.out hG5 (.inl rfl)) hC4);clear hq heq p0 p1 p2 p3 IHH hCr hGr hG4 hG5 hC4;go_wp2_with fail
      go_ret
      exact⟨by rw[e0.out];rfl,R.out.1,_,_,R.out.2,by rw[e0.out];intro p hp;cases hp⟩
     | some p' =>
      obtain⟨rfl,rfl⟩:=heq p' hq;obtain⟨_,_,hp3,hp4⟩:=chk_spec _ _ _ _ _ hq
      have hn:Hid (chkL (x.items.drop (k+1)) (lv+1) p'.1 p'.2=chkL x.items (lv+1) (i+1) (s+spendP x)):=by
       rw[Hid,← hdr.out,HD.out,chkL,hq]
      clear hq heq p0 p1 p2 p3 IHH hCr hGr hG4 HD hdr;go_wp2_with fail
      go_roundw
      case rel=>exact⟨k+1,p',by omega,by go_num,hn,hp3,hp4,hC4,hG5⟩
      case measure=>simp[intOf];omega
    ·have hkl:k=x.items.length:=by omega
     subst hkl
     have hfin:Hid (chkL x.items (lv+1) (i+1) (s+spendP x)=some p):=by
      rw[Hid,← hdr.out,List.drop_length,chkL]
     have hBr:=hB3.grown hGr (by simp;omega);have d0:=hBr.cell 0 rfl;have d3:=hBr.cell 3 rfl;have hGG:=Hh (grown_step HG3.out hGr (.inl rfl));clear hdr
     rcases TT.out with ⟨t1,t2,t3,t4,t5,t6,t7⟩ | ⟨t1,t2,t3,t4,t5,t6,t7⟩ | ⟨t1,t2,t3,t4,t5,t6,t7⟩
     ·clear t1 t2 t4 t5 t6;go_wp2_with fail
      go_ret
      have e0:chk x lv i s=some p:=by
       rw[E2.out,hfin.out]
       simp only[if_neg (fun h:x.kind=5∧_=>t7.out h.1)]
      exact⟨by rw[e0];rfl,hGG.out,_,_,hCr,by rw[e0];intro p' hp';injection hp' with hp';subst hp';exact⟨rfl,rfl⟩⟩
     ·clear t1 t2 t3 t4 t6;obtain⟨hK,hPe,_,hp4⟩:=chkL_spec _ _ _ _ _ hfin.out h1 hle;have hen:(encL x.items).length≤4096:=by rw[hPe]at hp4;simp only at hp4;omega
      have hlen:∀ k (h:k<x.items.length),(encB x.items[k]).length≤1099511627776:=by
       intro k hk
       have a1:=encL_take_succ x.items k hk;have a2:=encL_take_le x.items (k+1);rw[a1]at a2
       simp only[List.length_append]at a2
       omega
      have hAA:∃ b off,0<x.items.length→ia=some ⟨b,off,none⟩∧IsElems H b off x.items:=by
       by_cases h0:0<x.items.length
       ·obtain⟨ib,io,hia,hel⟩:=HX.out.items h0
        exact⟨ib,io,fun _=>⟨hia,hel⟩⟩
       ·exact⟨0,0,fun h=>absurd h h0⟩
      obtain⟨ib,io,hA⟩:=hAA;have ASC:=Hh (cbor_ascending x.items ib io ia ic wr hA hHr hK hlen x.items.length rfl (by omega));clear hA hlen hen hPe hp4 hK;go_wp2_with fail
      refine ASC.out.mono ?_
      rintro e w5 ⟨rfl,hb5⟩
      have R:=Hh (And.intro (grown_below hGG.out hb5) (hCr.below hb5))
      cases hasc:ascP x.items with
      | true =>
       have e0:Hid (chk x lv i s=some p):=by
        rw[Hid,E2.out,hfin.out]
        simp only[hasc,Bool.true_eq_false,and_false,if_false]
       clear ASC hasc;go_wp2_with fail
       go_ret
       exact⟨by rw[e0.out];rfl,R.out.1,_,_,R.out.2,by rw[e0.out];intro p' hp';injection hp' with hp';subst hp';exact⟨rfl,rfl⟩⟩
      | false =>
       have e0:Hid (chk x lv i s=none):=by
        rw[Hid,E2.out,hfin.out]
        simp only[hasc,t7.out,and_self,if_true]
       clear ASC hasc;go_wp2_with fail
       go_ret
       exact⟨by rw[e0.out];rfl,R.out.1,_,_,R.out.2,by rw[e0.out];intro p' hp';cases hp'⟩
     ·clear t1 t2 t3 t4;go_wp2_with fail
      go_ret
      have e0:chk x lv i s=some p:=by
       rw[E2.out,hfin.out]
       simp only[if_neg (fun h:x.kind=5∧_=>t7.out h.1)]
      exact⟨by rw[e0];rfl,hGG.out,_,_,hCr,by rw[e0];intro p' hp';injection hp' with hp';subst hp';exact⟨rfl,rfl⟩⟩
  ·have hdec:decide ((s:Int)+(spendP x:Int)≤4096)=false:=by simp;omega
   have R:=Hh (And.intro (grown_step hG2 hG3 (.inl rfl)) hC3);clear hC1 hB1 hG1 hH1 hC2 hB2 hG2 hC3 hG3 hB3 d0 d3 c0 f0 c00;go_wp2_with fail
   go_ret
   have e0:chk x lv i s=none:=by rw[E.out,if_pos (by omega)]
   exact⟨by rw[e0];rfl,R.out.1,_,_,R.out.2,by rw[e0];intro p hp;cases hp⟩
theorem ItemA.eqs {H:Snap}{k n:Int}{ba:Option Addr}{bl bc:Nat}{ia:Option Addr}{il ic:Nat}{x:Itm}(h:ItemA H k n ba bl bc ia il ic x):k=x.kind∧n=(x.n:Int)∧bl=x.bytes.length∧il=x.items.length∧IsItem H ba bc ia ic x:=⟨h.1,h.2,h.3,h.4,h.5⟩
theorem cbor_item (x:Itm):ItemSaid x:=by
 have main:∀ N,∀ x:Itm,cnt x≤N→ItemSaid x:=by
  intro N
  induction N with
  | zero =>
   intro x hx
   have:0<cnt x:=by cases x;rw[cnt];omega
   omega
  | succ N ih =>
   intro x hx H k n ba bl bc ia il ic w g i s lv hT ha hH hg hc hi hs hlv
   obtain⟨rfl,rfl,rfl,rfl,hxi⟩:=ha.eqs
   by_cases h0:256<i+1∨4096<x.bytes.length∨256<x.items.length
   ·exact item_many x i s lv h0 hxi w g hc hi
   ·by_cases hp:isPlain x=true
    ·exact item_plain x i s lv (by omega) (by omega) (by omega) hp hT hxi w hH g hg hc hs
    ·have hp':isPlain x=false:=by simpa using hp
     by_cases hf:frameOk x lv=true
     ·exact item_more x (fun y hy=>ih y (by omega)) i s lv (by omega) (by omega) (by omega) hp' hf hT hxi w hH g hg hc hs
     ·exact item_frame x i s lv (by omega) (by omega) (by omega) hp' (by simpa using hf) hT hxi w hH g hg hc hs hlv
 exact main _ x (Nat.le_refl _)
theorem cbor_Valid {H:Snap}(hT:Tabs H) {k n:Int}{ba:Option Addr}{bl bc:Nat}{ia:Option Addr}{il ic:Nat}{x:Itm}(hx:ItemA H k n ba bl bc ia il ic x) (w:World) (hH:Holds w H) :
  Calls Tryz.prog 45 #[.agg #[.int .i64 k,.int .u64 n,.slice ba bl bc,.slice ia il ic]] w fun e w'=>e=.returned (.bool (validP x))∧Below w.heap.size w w':=by
 have W1:=fun w1:World=>fun h1:Holds w1 H=>fun hg=>fun hc=>(cbor_item x) H k n ba bl bc ia il ic w1 (w.heap.size+1) 0 0 0 hT hx h1 hg hc (by omega) (by omega) (by omega)
 have hH2:=(hH.alloc (.cells #[.int .i64 k,.int .u64 n,.slice ba bl bc,.slice ia il ic] 26))
 have hg2:H (w.heap.size+1)=none:=hH.none_of_ge (by omega);have hC:=Blk.new (w.alloc (.cells #[.int .i64 k,.int .u64 n,.slice ba bl bc,.slice ia il ic] 26)) 102 #[.int .i64 0,.int .i64 0];rw[show(w.alloc (.cells #[.int .i64 k,.int .u64 n,.slice ba bl bc,.slice ia il ic] 26)).heap.size=w.heap.size+1 by simp]at hC;have I:=Hh (W1 _ (hH2.alloc (.cells #[.int .i64 0,.int .i64 0] 102)) hg2 hC);have B2:=Hh ((below_box w (.cells #[.int .i64 k,.int .u64 n,.slice ba bl bc,.slice ia il ic] 26)).alloc (by simp) (.cells #[.int .i64 0,.int .i64 0] 102));clear W1 hH2 hg2 hC hx;go_enter Tryz.func45,Tryz.ntmps45
 go_wp2_with fail
 refine I.out.mono ?_
 rintro e w2 ⟨rfl,hG,_⟩
 go_wp2_with fail
 go_ret
 exact⟨rfl,below_of_grown B2.out hG (by simp)⟩
def EncSaid (w:World) (x:Itm) (e:Ending) (w':World):Prop :=
 (validP x=false∧e=.returned (.tuple #[.slice none 0 0,.int .i64 1])∧Below w.heap.size w w')∨
 (validP x=true∧∃ r,e=.returned (.tuple #[r,.int .i64 0])∧Fresh w (encB x) r w')
theorem cbor_Encode {H:Snap}(hT:Tabs H) {k n:Int}{ba:Option Addr}{bl bc:Nat}{ia:Option Addr}{il ic:Nat}{x:Itm}(hx:ItemA H k n ba bl bc ia il ic x) (w:World) (hH:Holds w H) :
  Calls Tryz.prog 35 #[.agg #[.int .i64 k,.int .u64 n,.slice ba bl bc,.slice ia il ic]] w (EncSaid w x):=by
 have hH1:=(hH.alloc (.cells #[.int .i64 k,.int .u64 n,.slice ba bl bc,.slice ia il ic] 26))
 have hb1:=below_box w (.cells #[.int .i64 k,.int .u64 n,.slice ba bl bc,.slice ia il ic] 26);have hB1:=Blk.new w 26 #[.int .i64 k,.int .u64 n,.slice ba bl bc,.slice ia il ic];have V:=Hh (cbor_Valid hT hx _ hH1);go_enter Tryz.func35,Tryz.ntmps35
 go_wp2_with fail
 refine V.out.mono ?_
 rintro e w2 ⟨rfl,hb2⟩
 have hB2:=hB1.below hb2;have b0:=hB2.cell 0 rfl;have b1:=hB2.cell 1 rfl;have b2:=hB2.cell 2 rfl;have b3:=hB2.cell 3 rfl;have hH2:=hH1.below hb2 (Nat.le_refl _);have hb:=hb1.trans (hb2.mono hb1.size)
 cases hv:validP x with
 | false =>
  have hv':=Hh hv;clear hv;go_wp2_with fail
  go_ret2
  exact .inl ⟨hv'.out,rfl,hb⟩
 | true =>
  obtain⟨hk,_,hl⟩:=validP_spec hv;have A:=Hh (cbor_add x H k n ba bl bc ia il ic w2 w2.heap.size (.slice none 0 0) [] hk hx hH2 (OwnB.nil _ _) (Nat.le_refl _) (by simp[Value.ownBlock]) (by simp;omega));have hv':=Hh hv;clear hv hl;go_wp2_with fail
  refine A.out.mono ?_
  rintro e w3 ⟨r,rfl,hown,hg,_⟩
  go_wp2_with fail
  go_ret2
  refine .inr ⟨hv'.out,_,rfl, ?_, ?_⟩
  ·simpa [OwnB] using hown.more (base':=w.heap.size) hb.size
  ·exact hb.trans ((grown_none (by simpa [Value.ownBlock] using hg)).mono hb.size)
theorem Snap.with_ne (H:Snap) {g b:Nat}(o:Obj) (h:b≠g):(H.with g o) b=H b:=by simp[Snap.with,h]
theorem wpList_make_items {w:World}{ops:Array Oper}{rest:List Oper}{o:Oper}{a:Act}{Q:Exit→Act→World→Prop}
  (hg:o.guard=none) (l c:Operand) (hop:o.op=Op.makeSlice 24 l c)
  (kl kc:IntKind) (L C:Int) (n:Nat) (hl:a.eval l=.int kl L) (hc:a.eval c=.int kc C) (hL:L=(n:Int)) (hC:C=(n:Int)) (b2:n≤1099511627776) (g:Nat) (hgz:w.heap.size=g)
  (hK:∀ w' cs,Blk w' g 26 cs→cs.size=n*4→Below w.heap.size w w'→wpList Tryz.prog ops Q rest (a.put o.dst (.slice (some ⟨g,0,none⟩) n n)) w') :
  wpList Tryz.prog ops Q (o::rest) a w:=by
 subst hgz;obtain⟨i0,hi0,hz0,hz1,hz2⟩:=info_parts info_item
 refine wpList_make_full w hg l c _ hop w.heap.size 26 i0 _ 4 Tryz.underlying24 hi0 hz0 hz1 kl kc L C n hl hc hL hC (by rw[hz2];omega) (by simp only[maxLen];omega) (Nat.le_refl _) fun w' h1 h2=>?_
 rcases h1.2 with ⟨hv,_⟩ | ⟨g,cap,cur,hv,_,hg,_,_,hs,_⟩
 ·cases hv
 ·cases hv
  exact hK w' cur hg hs (grown_none h2)
def CopiedSaid (x:Itm):Prop:=∀ (H:Snap) (k n:Int) (ba:Option Addr) (bl bc:Nat) (ia:Option Addr) (il ic:Nat) (w:World),
 Modest x→ItemA H k n ba bl bc ia il ic x→Holds w H→
 Calls Tryz.prog 71 #[.agg #[.int .i64 k,.int .u64 n,.slice ba bl bc,.slice ia il ic]] w fun e w'=>∃ v,e=.returned v∧Gives w H x v w'
theorem copied_step (x:Itm) (ih:∀ y:Itm,cnt y<cnt x→CopiedSaid y):CopiedSaid x:=by
 intro H k n ba bl bc ia il ic w hm hx hH
 obtain⟨rfl,rfl,rfl,rfl,hxi⟩:=hx.eqs;obtain⟨hm1,hm2,hm3⟩:=hm.parts;have HX:=Hh hxi;have hbounds:=Hh hxi.bounds;have C:=Hh (bytes_Clone ((w.alloc (.cells #[.int .i64 x.kind,.int .u64 x.n,.slice ba x.bytes.length bc,.slice ia x.items.length ic] 26)).alloc (.cells #[.int .i64 0,.int .u64 0,.slice none 0 0,.slice none 0 0] 26)) ba x.bytes x.bytes.length bc rfl hm1 (((Src.of_row hxi.bytes.row hH).alloc _).alloc _));have hB1:=(Blk.new w 26 #[.int .i64 x.kind,.int .u64 x.n,.slice ba x.bytes.length bc,.slice ia x.items.length ic]).alloc (.cells #[.int .i64 0,.int .u64 0,.slice none 0 0,.slice none 0 0] 26);have hB2:=Blk.new (w.alloc (.cells #[.int .i64 x.kind,.int .u64 x.n,.slice ba x.bytes.length bc,.slice ia x.items.length ic] 26)) 26 #[.int .i64 0,.int .u64 0,.slice none 0 0,.slice none 0 0];rw[show(w.alloc (.cells #[.int .i64 x.kind,.int .u64 x.n,.slice ba x.bytes.length bc,.slice ia x.items.length ic] 26)).heap.size=w.heap.size+1 by simp]at hB2
 clear hx hm hxi hm1;go_enter Tryz.func71,Tryz.ntmps71
 go_wp2_with fail
 refine C.out.mono ?_
 rintro e w1 ⟨r,rfl,hf⟩
 obtain⟨A',c',rfl,_⟩:=hf.own.form;obtain⟨H1,hG1,hbs,_⟩:=hf.snapB ((hH.alloc _).alloc _);have hb1n:H1 w.heap.size=none:=hG1.none (hH.none_of_ge (Nat.le_refl _)) (by simp;omega);have hb2n:H1 (w.heap.size+1)=none:=hG1.none (hH.none_of_ge (by omega)) (by simp);have hG1:=(((Grows.refl hH).alloc _).alloc _).trans hG1;have hB1:=hB1.below hf.2;have hB2:=hB2.below hf.2;have b2:=hB1.cell 2 rfl;have f2:=hB1.frozen 2;have hB1:=hB1.set_ 2 (.slice A' x.bytes.length c');have b3:=hB1.cell 3 rfl;have hw1:w.heap.size+2≤w1.heap.size:=by have:=hf.2.size;simp at this;omega
 go_wp2_with (at_make;refine stop_in ?_)
 refine wpList_make_items rfl _ _ rfl .i64 .i64 _ _ x.items.length rfl rfl rfl rfl hm2 w1.heap.size (by simp[World.setCell]) fun w2 cs hcs hcz hb2=>?_
 have hgn:H1 w1.heap.size=none:=hG1.hidden (Nat.le_refl _);have hG2:Grows w H w2 H1:=(hG1.setOwn hb1n (Nat.le_refl _) 2 (.slice A' x.bytes.length c')).below_ hb2;have hB2:=(hB2.far (p:=⟨w.heap.size,2,none⟩) (by simp) (.slice A' x.bytes.length c')).below hb2;have hB1:=hB1.below hb2;have hw2:w1.heap.size<w2.heap.size:=hcs.lt;have c3:=hB1.cell 3 rfl;have HG2:=Hh hG2;have hle1:=hG1.le;clear hf C b2 f2 b3 hb2;go_upto_region 4 with fail
 go_loopw [17] (fun vi wr=>∃ (k:Nat) (Hr:Snap) (cr:Array Value) (pre:List Value),k≤x.items.length∧vi=.int .i64 k∧Grows w H wr Hr∧H1.le Hr∧Hr w.heap.size=none∧Hr (w.heap.size+1)=none∧Hr w1.heap.size=none∧
  Blk wr w.heap.size 26 #[.int .i64 x.kind,.int .u64 x.n,.slice A' x.bytes.length c',.slice ia x.items.length ic]∧Blk wr (w.heap.size+1) 26 #[.int .i64 0,.int .u64 0,.slice none 0 0,.slice none 0 0]∧
  Blk wr w1.heap.size 26 cr∧cr.size=x.items.length*4∧ItemsC Hr pre (x.items.take k)∧cr.toList.take (k*4)=pre) (fun vi _=>x.items.length-(intOf vi).toNat)
 case atStart=>exact⟨0,H1,cs,[],Nat.zero_le _,rfl,HG2.out,Snap.le.refl _,hb1n,hb2n,hgn,hB1,hB2,hcs,hcz,by simp[ItemsC],by simp⟩
 case round =>
  obtain⟨k,Hr,cr,pre,hk,rfl,hGr,hlr,hn1,hn2,hng,hC1,hC2,hCg,hcrz,hpre,hcp⟩:=hrel
  by_cases hlt:k<x.items.length
  ·obtain⟨ib,io,hia,hel⟩:=HX.out.items (by omega);obtain⟨eba,ebc,eia,eic,q0,q1,q2,q3,hex⟩:=hel.get k hlt;subst hia;have hHw:=hGr.holds.mono hGr.le;have p0:=hHw.cell q0;have p1:=hHw.cell q1;have p2:=hHw.cell q2;have p3:=hHw.cell q3;have IH:=Hh (ih x.items[k] (cnt_items x k hlt) Hr _ _ eba _ ebc eia _ eic (wr.alloc (.cells #[.int .i64 x.items[k].kind,.int .u64 x.items[k].n,.slice eba x.items[k].bytes.length ebc,.slice eia x.items[k].items.length eic] 26)) (hm3.get k hlt) (hex.mono hGr.le).arg (hGr.holds.alloc _));clear q0 q1 q2 q3 hel hex hHw;go_wp2_with fail
   refine IH.out.mono ?_
   rintro e w3 ⟨v,rfl,rba,rbc,ria,ric,Hs,rfl,hG3,his⟩
   have hG4:=(hGr.alloc (.cells #[.int .i64 x.items[k].kind,.int .u64 x.items[k].n,.slice eba x.items[k].bytes.length ebc,.slice eia x.items[k].items.length eic] 26)).trans hG3;have hD1:=(hC1.alloc (.cells #[.int .i64 x.items[k].kind,.int .u64 x.items[k].n,.slice eba x.items[k].bytes.length ebc,.slice eia x.items[k].items.length eic] 26)).below hG3.below;have hD2:=(hC2.alloc (.cells #[.int .i64 x.items[k].kind,.int .u64 x.items[k].n,.slice eba x.items[k].bytes.length ebc,.slice eia x.items[k].items.length eic] 26)).below hG3.below;have hDg:=(hCg.alloc (.cells #[.int .i64 x.items[k].kind,.int .u64 x.items[k].n,.slice eba x.items[k].bytes.length ebc,.slice eia x.items[k].items.length eic] 26)).below hG3.below;have hm1':=hG3.none hn1 (by have:=hC1.lt;simp;omega);have hm2':=hG3.none hn2 (by have:=hC2.lt;simp;omega);have hmg':=hG3.none hng (by have:=hCg.lt;simp;omega)
   have hpre2:ItemsC Hs (pre++itemC x.items[k] rba rbc ria ric) (x.items.take (k+1)):=by
    rw[List.take_succ_eq_append_getElem hlt]
    exact(hpre.mono hG3.le).app (ItemsC.one his)
   have hlr2:=hlr.trans hG3.le;have HCP:=Hh hcp;clear p0 p1 p2 p3 IH hC1 hC2 hCg hpre hGr hG3 hcp;go_wp2_with (with_reducible refine stop_store ?_)
   refine wpList_store_blk rfl _ _ _ rfl rfl w1.heap.size (k*4) _ rfl rfl _ _ hDg size_item (by show k*4+4≤cr.size;omega) (one4 _ _ _ _ rfl rfl rfl rfl) fun w4 hDg4 hg4=>?_
   have hG5:=hG4.grownOwn hmg' (by omega) hg4;have hD1:=hD1.grown hg4 (by simp;omega);have hD2:=hD2.grown hg4 (by simp;omega);have hsz:(putC cr (k*4) (itemC x.items[k] rba rbc ria ric)).size=x.items.length*4:=by rw[putC_size];exact hcrz
   have htk:(putC cr (k*4) (itemC x.items[k] rba rbc ria ric)).toList.take ((k+1)*4)=pre++itemC x.items[k] rba rbc ria ric:=by
    rw[show(k+1)*4=k*4+(itemC x.items[k] rba rbc ria ric).length by simp[itemC];omega,putC_take _ _ _ (by simp[itemC];omega),HCP.out]
   have HTK:=Hh htk;clear htk hG4 hDg;go_wp2_with fail
   go_roundw
   case rel=>exact⟨k+1,Hs,_,_,by omega,by go_num,hG5,hlr2,hm1',hm2',hmg',hD1,hD2,hDg4,hsz,hpre2,HTK.out⟩
   case measure=>simp[intOf];omega
  ·have hkl:k=x.items.length:=by omega
   subst hkl;rw[List.take_length]at hpre;have HCP:=Hh hcp;clear hcp;have hF:=hGr.withOwn hng (by omega) hCg;have hK:=hlr.trans (Snap.le_with hng (o:=.cells cr 26 (0,0)));have hn2':(Hr.with w1.heap.size (.cells cr 26 (0,0))) (w.heap.size+1)=none:=by rw[Snap.with_ne _ _ (by omega)];exact hn2
   have hn1':(Hr.with w1.heap.size (.cells cr 26 (0,0))) w.heap.size=none:=by rw[Snap.with_ne _ _ (by omega)];exact hn1
   have helems:IsElems (Hr.with w1.heap.size (.cells cr 26 (0,0))) w1.heap.size 0 x.items :=
    (hpre.mono (Snap.le_with hng)).elems (Blk.cellsAt _ rfl pre (by rw[hpre.len];exact HCP.out))
   have hbs':=hbs.mono hK;have hsz:w.heap.size<wr.heap.size:=hC1.lt;clear hCg;go_wp2_with (with_reducible refine stop_store ?_)
   refine wpList_store_cell rfl _ _ _ rfl rfl w.heap.size 3 _ rfl rfl _ _ hC1 size_items (by simp) rfl fun w4 hE1 hg4=>?_
   have hE2:=hC2.grown hg4 (by simp);have hGE:=hF.grownOwn hn1' (Nat.le_refl _) hg4;clear hC1 hC2
   by_cases h0:x.items.length=0
   ·have hitem:IsItem (Hr.with w1.heap.size (.cells cr 26 (0,0))) A' c' none 0 x:=by
     obtain⟨z1,z2,z3,_⟩:=hbounds.out
     cases x
     rw[IsItem]
     exact⟨⟨z1,z2,z3,Nat.le_of_eq h0,by omega⟩,hbs',fun h=>absurd h (by simp[Itm.items]at h0;simp[h0])⟩
    have HI:=Hh hitem;have h00:(x.items.length:Int)=0:=by omega
    have H00:=Hh h0;clear h0 hitem;go_wp2_with (with_reducible refine stop_store ?_)
    refine wpList_store_cell rfl _ _ _ rfl rfl w.heap.size 3 _ rfl rfl _ _ hE1 size_items (by simp) rfl fun w5 hF1 hg5=>?_
    have hF2:=hE2.grown hg5 (by simp);have hGE:=hGE.grownOwn hn1' (Nat.le_refl _) hg5;have i0:=hF1.cell 0 rfl;have i1:=hF1.cell 1 rfl;have i2:=hF1.cell 2 rfl;have i3:=hF1.cell 3 rfl;go_wp2_with (with_reducible refine stop_store ?_)
    refine stI hF2 fun w6 hJ2 hg6=>?_
    go_wp2_with fail
    refine ret_row rfl rfl hJ2 rfl rfl size_item rfl ?_
    exact⟨_,rfl,A',c',none,0,_,by simp[itemV,H00.out],hGE.grownOwn hn2' (by omega) hg6,HI.out⟩
   ·have hitem:IsItem (Hr.with w1.heap.size (.cells cr 26 (0,0))) A' c' (some ⟨w1.heap.size,0,none⟩) x.items.length x:=by
     obtain⟨z1,z2,z3,z4,z5,z6,z7⟩:=hbounds.out
     cases x
     rw[IsItem]
     exact⟨⟨z1,z2,z3,Nat.le_refl _,by simp only[Itm.items]at z6⊢;omega⟩,hbs',fun h=>⟨_,_,rfl,helems⟩⟩
    have HI:=Hh hitem;have h00:((x.items.length:Int)==0)=false:=by rw[beq_eq_false_iff_ne];omega
    clear h0 hitem;have i0:=hE1.cell 0 rfl;have i1:=hE1.cell 1 rfl;have i2:=hE1.cell 2 rfl;have i3:=hE1.cell 3 rfl;go_wp2_with (with_reducible refine stop_store ?_)
    refine stI hE2 fun w6 hJ2 hg6=>?_
    go_wp2_with fail
    refine ret_row rfl rfl hJ2 rfl rfl size_item rfl ?_
    exact⟨_,rfl,A',c',_,_,_,rfl,hGE.grownOwn hn2' (by omega) hg6,HI.out⟩
theorem cbor_copied (x:Itm):CopiedSaid x:=by
 have main:∀ N,∀ x:Itm,cnt x≤N→CopiedSaid x:=by
  intro N
  induction N with
  | zero =>
   intro x hx
   have:0<cnt x:=by cases x;rw[cnt];omega
   omega
  | succ N ih=>exact fun x hx=>copied_step x fun y hy=>ih y (by omega)
 exact main _ x (Nat.le_refl _)
end Go.Proofs.YtgcjjhibdbafmaaGreatDoor
