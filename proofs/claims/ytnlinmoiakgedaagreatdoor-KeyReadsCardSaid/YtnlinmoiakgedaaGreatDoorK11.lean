/- squeezed. Walks: the deck of numbers: Mod, N -/
import Derived.Test.YtnlinmoiakgedaaGreatDoorK10
import Derived.ChangeSlices
import Derived.OpenShut
set_option linter.unusedVariables false
set_option linter.unusedSimpArgs false
set_option maxRecDepth 100000
set_option maxHeartbeats 1600000
namespace Go.Proofs.YtnlinmoiakgedaaGreatDoor
open Go.RowKit
structure IsInts (H:Snap) (A:Option Addr) (c:Nat) (l:List Int):Prop where
 le:l.length≤c
 max:c≤9223372036854775807
 row:Row H A (l.map (Value.int .i64))
 bnd:∀ x∈l, -9223372036854775808≤x∧x≤9223372036854775807
theorem IsInts.mono {H K:Snap}{A:Option Addr}{c:Nat}{l:List Int}(h:IsInts H A c l) (hl:H.le K):IsInts K A c l:=⟨h.le,h.max,h.row.mono hl,h.bnd⟩
def Deck (w:World) (g:Nat) (H:Snap):Prop:=∃ (A:Option Addr) (c:Nat) (l:List Int) (k:Nat),Blk w g 54 #[.slice A l.length c,.int .i64 k]∧IsInts H A c l∧k≤l.length
theorem Deck.mono {w:World}{g:Nat}{H K:Snap}(h:Deck w g H) (hl:H.le K):Deck w g K:=by
 obtain⟨A,c,l,k,h1,h2,h3⟩:=h
 exact⟨A,c,l,k,h1,h2.mono hl,h3⟩
theorem Deck.below {w w':World}{g:Nat}{H:Snap}(h:Deck w g H) (hb:Below w.heap.size w w'):Deck w' g H:=by
 obtain⟨A,c,l,k,h1,h2,h3⟩:=h
 exact⟨A,c,l,k,h1.below hb,h2,h3⟩
theorem Deck.lt {w:World}{g:Nat}{H:Snap}(h:Deck w g H):g<w.heap.size:=by
 obtain⟨A,c,l,k,h1,h2,h3⟩:=h
 exact h1.lt
def oa (v n:Int):Int:=if v.tmod n<0 then v.tmod n+n else v.tmod n
theorem rN (v n:Int) (hn:0<n):0≤oa v n∧oa v n<n:=by
 have h1:=Int.tmod_lt_of_pos v hn;have h2 : -n<v.tmod n:=by have:=Int.tmod_lt_of_pos (-v) hn;rw[Int.neg_tmod]at this;omega
 unfold oa
 split <;> omega
theorem oQ (v n:Int) (hn:0<n) (tb:n≤1099511627776) (w:World) :
  Calls Tryz.prog 14 #[.int .i64 v,.int .i64 n] w fun e w'=>e=.returned (.int .i64 (oa v n))∧w=w':=by
 have h1:=Int.tmod_lt_of_pos v hn;have h2 : -n<v.tmod n:=by have:=Int.tmod_lt_of_pos (-v) hn;rw[Int.neg_tmod]at this;omega
 have zQ:(n==0)=false:=by rw[beq_eq_false_iff_ne];omega
 have uy:(n=0)=False:=eq_false (by omega);have K1:IntKind.i64.wrap (v.tmod n)=v.tmod n:=IntWalk.i64_in _ (by omega)
 by_cases h0:v.tmod n<0
 ·have E:Hid (oa v n=v.tmod n+n):=by rw[Hid,oa,if_pos h0]
  go_enter Tryz.func14,Tryz.ntmps14
  go_wp2_with fail
  go_ret
  exact⟨by rw[E.out];rfl,rfl⟩
 ·have E:Hid (oa v n=v.tmod n):=by rw[Hid,oa,if_neg h0]
  go_enter Tryz.func14,Tryz.ntmps14
  go_wp2_with fail
  go_ret
  exact⟨by rw[E.out];rfl,rfl⟩
theorem Xw (A:Option Addr) (n c:Nat) (w:World) :
  Calls Tryz.prog 4 #[.slice A n c] w fun e w'=>e=.returned (.bool (decide (n≤600)))∧w=w':=by
 have E:Hid (decide ((n:Int)≤600)=decide (n≤600)):=by rw[Hid,Bool.eq_iff_iff,decide_eq_true_eq,decide_eq_true_eq];omega
 go_enter Tryz.func4,Tryz.ntmps4
 go_wp2_with fail
 go_ret
 exact⟨by rw[← E.out];rfl,rfl⟩
theorem Tu {H:Snap}{A:Option Addr}{c:Nat}{l:List Int}(hl:IsInts H A c l) (w:World) :
  Calls Tryz.prog 6 #[.slice A l.length c] w fun e w'=>e=.returned (.pointer (some ⟨w.heap.size,0,none⟩))∧Deck w' w.heap.size H∧Below w.heap.size w w':=by
 have hB:=Blk.new w 54 #[.slice A l.length c,.int .i64 0];have hb:=zi w (.cells #[.slice A l.length c,.int .i64 0] 54);have HL:=Hh hl;clear hl;go_enter Tryz.func6,Tryz.ntmps6
 go_wp2_with fail
 go_ret
 exact⟨rfl,⟨A,c,l,0,hB,HL.out,Nat.zero_le _⟩,hb⟩
theorem YI:(Tryz.prog.info? 3).map (·.size)=some 1:=by kernel_rfl
theorem W3 {H:Snap}{g:Nat}(w:World) (hD:Deck w g H) (hH:Holds w H) (hg:H g=none) (n:Int) (hn:0<n) (tb:n≤1099511627776) :
  Calls Tryz.prog 25 #[.pointer (some ⟨g,0,none⟩),.int .i64 n] w fun e w'=>∃ r:Int,e=.returned (.int .i64 r)∧0≤r∧r<n∧Deck w' g H∧w.grownBy w' (some g):=by
 obtain⟨A,c,l,k,hB,hl,hk⟩:=hD;have hc:=hl.max;have tw:=hl.le;have HL:=Hh hl;have tL:=hB.drew;clear hl;have Qd:(k:Int)+1≤9223372036854775807∨l.length≤k:=by omega
 have n4:=Hh Qd;have Uj:=Hh tb;clear hc tw Qd tb;go_enter Tryz.func25,Tryz.ntmps25
 go_upto_region 1 with fail
 refine zf 9 (fun w'=>w'.cell? ⟨g,0,none⟩=some (.slice A l.length c)∧w'.cell? ⟨g,1,none⟩=some (.int .i64 k)) (by kernel_rfl) (⟨tL.cell 0 rfl,tL.cell 1 rfl⟩) (fun zy=>?_)
 refine Tk 0 rfl zy ?_
 refine Tk 1 rfl zy ?_
 refine Tk 2 rfl zy ?_
 refine Tk 3 rfl zy ?_
 refine Tk 4 rfl zy ?_
 refine Tk 5 rfl zy ?_
 refine Tk 6 rfl zy ?_
 refine Tk 7 rfl zy ?_
 refine Tk 8 rfl zy ?_
 refine To 9 rfl fun K hK=>?_
 go_simp
 refine hK.out _ _ (fun h=>absurd rfl h) (fun _=>?_)
 clear hK K
 try simp only[Act.put,zz4,zz5,zz6]
 refine Ways.done (by kernel_rfl) ?_
 clear zy
 by_cases yi:k<l.length
 ·have eL:¬ (l.length:Int)≤k:=by omega
  have c1:=tL.cell 1 rfl;have tG:(k:Int)+1≤9223372036854775807:=by have:=n4.out;omega
  have o3:IntKind.i64.wrap ((k:Int)+1)=(k:Int)+1:=IntWalk.i64_in _ (by omega);clear tG;go_wp2_with (with_reducible refine zx ?_)
  refine zu rfl _ _ _ rfl rfl g 1 (.int .i64 ((k:Int)+1)) rfl rfl _ _ tL YI (by simp) rfl fun w2 yu yp=>?_
  obtain⟨ib,io,rfl,xq⟩:=HL.out.row (by intro h;rw[List.map_eq_nil_iff]at h;subst h;simp at yi);have yp:=yV (tO (yU w (some g))) yp (.inl rfl);have py:Holds w2 H:=hH.grown yp (by rintro q ⟨⟩;exact hg);have hx:=xq k (.int .i64 l[k]) (by simp[yi]);have wO:Blk w2 g 54 #[.slice (some ⟨ib,io,none⟩) l.length c,.int .i64 ((k:Int)+1)]:=yu;have MD:=Hh (fun w3:World=>oQ l[k] n hn Uj.out w3);have NZ:=rN l[k] n hn
  generalize l[k]'yi=x at *
  have zG:=py.drew;have Sa:=wO.drew;have yO:=tO yp;have KZ:(k:Int)<l.length:=by omega
  have xE:IntKind.i64.wrap ((k:Int)+1-1)=(k:Int):=by rw[show(k:Int)+1-1=k by omega];exact IntWalk.i64_in _ (by have:=n4.out;omega)
  have XG:IntKind.i64.wrap (k:Int)=(k:Int):=IntWalk.i64_in _ (by have:=n4.out;omega);have qN:(0:Int)≤k:=by omega
  have MJ:=Hh NZ;clear yu yp py c1 tL hB xq NZ eL;go_upto_region 4 with fail
  refine zf 13 (fun w'=>w'.cell? ⟨g,0,none⟩=some (.slice (some ⟨ib,io,none⟩) l.length c)∧w'.cell? ⟨g,1,none⟩=some (.int .i64 ((k:Int)+1))∧w'.cell? ⟨ib,io+k,none⟩=some (.int .i64 x)) (by kernel_rfl) (⟨Sa.cell 0 rfl,Sa.cell 1 rfl,zG.cell hx⟩) (fun zy=>?_)
  refine Tk 0 rfl zy ?_
  refine Tk 1 rfl zy ?_
  refine Tk 2 rfl zy ?_
  refine Tk 3 rfl zy ?_
  refine Tk 4 rfl zy ?_
  refine Tk 5 rfl zy ?_
  refine Tk 6 rfl zy ?_
  refine Tk 7 rfl zy ?_
  refine Tk 8 rfl zy ?_
  refine Tk 9 rfl zy ?_
  refine Tk 10 rfl zy ?_
  refine Tk 11 rfl zy ?_
  refine To 12 rfl fun K hK=>?_
  go_simp
  refine(MD.out _).mono ?_
  rintro e w5 ⟨rfl,rfl⟩
  refine hK.out _ _ (fun _=>?_) (fun zy=>?_)
  ·exact⟨Sa.cell 0 rfl,Sa.cell 1 rfl,zG.cell hx⟩
  clear hK K;have zy:=zy (by decide)
  try simp only[Act.put,zz4,zz5,zz6]
  refine To 13 rfl fun K hK=>?_
  go_simp
  refine hK.out _ _ (fun h=>absurd rfl h) (fun _=>?_)
  clear hK K
  try simp only[Act.put,zz4,zz5,zz6]
  refine Ways.done (by kernel_rfl) ?_
  clear zy;go_wp2_with fail
  go_ret
  exact⟨_,rfl,MJ.out.1,MJ.out.2,⟨_,c,l,k+1,Sa,HL.out,by omega⟩,yO⟩
 ·have eL:(l.length:Int)≤k:=by omega
  go_wp2_with fail
  go_ret
  exact⟨0,rfl,by omega,hn,⟨A,c,l,k,tL,HL.out,hk⟩,tO (yU w _)⟩
def qQ (W:World):Snap:=fun b=>W.heap[b]?
theorem jz (W:World) (a:Addr):(qQ W).cell? a=W.cell? a:=rfl
theorem eh (W:World):Holds W (qQ W):=fun _ _ h=>h
theorem cg {W:World}(h:Lib.Utf8Tabs 0 1 W):Tabs (qQ W):=fun _ hw =>
 ⟨fun c hc=>hw.cell (h.1 c hc),fun i hi=>⟨hw.cell (h.2 i hi).1,hw.cell (h.2 i hi).2⟩⟩
theorem kP {n:Int}(h:(Lit.int .i64 n).wf=true) : -9223372036854775808≤n∧n≤9223372036854775807:=by
 simp[Lit.wf,IntKind.min,IntKind.max,IntKind.signed,IntKind.bits]at h
 omega
theorem ai {n:Int}(h:(Lit.int .u8 n).wf=true):0≤n∧n<256:=by
 simp[Lit.wf,IntKind.min,IntKind.max,IntKind.signed,IntKind.bits]at h
 omega
theorem aB {W:World}{a:Addr}{len cap:Nat}{zs:List Int}(hl:len≤cap) (hm:cap≤maxLen) (hz:len≤zs.length)
  (hc:∀ i,i<zs.length→W.cell? (a.add i)=some (.int .i64 (zs.getD i 0))) (wf:∀ n∈zs,(Lit.int .i64 n).wf=true):IsInts (qQ W) (some a) cap (zs.take len)∧(zs.take len).length=len:=by
 have zK:(zs.take len).length=len:=by rw[List.length_take];omega
 refine⟨⟨by rw[zK];exact hl,by simpa [maxLen] using hm,fun wd=>?_,fun x hx=>kP (wf x (List.mem_of_mem_take hx))⟩,zK⟩
 have h0:0<len:=by
  rcases Nat.eq_zero_or_pos len with h | h
  ·subst h;simp at wd
  ·exact h
 obtain⟨b,off,rfl,xq⟩:=ints_at hc (by omega)
 refine⟨b,off,rfl,fun j v hj=>?_⟩
 rw[List.getElem?_map]at hj;obtain⟨x,hx,rfl⟩:=Option.map_eq_some_iff.1 hj;have pB:=(List.getElem?_eq_some_iff.1 hx).1;rw[zK]at pB;rw[jz,xq j (by omega)];rw[List.getElem?_take,if_pos pB]at hx
 simp[List.getD,hx]
def tp (zs:List Int):List UInt8:=zs.map fun n=>u8 n.toNat
theorem jr {W:World}{a:Addr}{len cap:Nat}{zs:List Int}(hl:len≤cap) (hm:cap≤maxLen) (hz:len≤zs.length)
  (hc:∀ i,i<zs.length→W.cell? (a.add i)=some (.int .u8 (zs.getD i 0))) (wf:∀ n∈zs,(Lit.int .u8 n).wf=true):IsBytes (qQ W) (some a) cap (tp (zs.take len))∧(tp (zs.take len)).length=len:=by
 have zK:(tp (zs.take len)).length=len:=by rw[tp,List.length_map,List.length_take];omega
 refine⟨⟨by rw[zK];exact hl,by simpa [maxLen] using hm,fun wd=>?_⟩,zK⟩
 have h0:0<len:=by
  rcases Nat.eq_zero_or_pos len with h | h
  ·subst h;simp[tp]at wd
  ·exact h
 obtain⟨b,off,rfl,xq⟩:=ints_at hc (by omega)
 refine⟨b,off,rfl,fun j v hj=>?_⟩
 rw[tp,List.map_map,List.getElem?_map]at hj;obtain⟨x,hx,rfl⟩:=Option.map_eq_some_iff.1 hj;rw[List.getElem?_take]at hx
 split at hx
 ·rename_i pB
  have hb:=ai (wf x (List.mem_of_getElem? hx));rw[jz,xq j (by omega)]
  simp[List.getD,hx,zD,sw]
  omega
 ·cases hx
end Go.Proofs.YtnlinmoiakgedaaGreatDoor
