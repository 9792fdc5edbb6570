/- squeezed. Walks: the references' left, joine -/
import Derived.Test.YtjpcnhncoidliaaGreatDoorK04
import Derived.Test.YtjpcnhncoidliaaGreatDoorK05
import Derived.ChangeSlices
import Derived.OpenShut
import Derived.Shelf.Unicode.ValidAny
set_option linter.unusedVariables false
set_option linter.unusedSimpArgs false
set_option maxRecDepth 100000
set_option maxHeartbeats 1600000
namespace Go.Proofs.YtjpcnhncoidliaaGreatDoor
open Go.RowKit
theorem TL (x:Itm) (hk:x.kind<0∨8<x.kind) {ba:Option Addr}{bc:Nat}{ia:Option Addr}{ic:Nat}(w:World) (c d:Nat) (pT:0<c) (hc:c≤65536) :
  Calls Tryz.prog 94 #[ua x ba bc ia ic,.int .i64 c,.int .i64 d] w fun e w'=>e=.returned (.int .i64 (wX (zN x c d)))∧Below w.heap.size w w':=by
 have E:Hid (zN x c d=none):=zE (WF hk);have So:¬ (c:Int)<1:=by omega
 have b2:(x.kind==2)=false:=by rw[beq_eq_false_iff_ne];omega
 have b3:(x.kind==3)=false:=by rw[beq_eq_false_iff_ne];omega
 have b4:(x.kind==4)=false:=by rw[beq_eq_false_iff_ne];omega
 have b5:(x.kind==5)=false:=by rw[beq_eq_false_iff_ne];omega
 have b6:(x.kind==6)=false:=by rw[beq_eq_false_iff_ne];omega
 rcases hk with hk | hk
 ·go_enter Tryz.func94,Tryz.ntmps94
  go_wp2_with fail
  go_ret
  exact⟨by rw[E.out];rfl,zl w _⟩
 have lU:¬ x.kind<0:=by omega
 go_enter Tryz.func94,Tryz.ntmps94
 go_wp2_with fail
 go_ret
 exact⟨by rw[E.out];rfl,zl w _⟩
theorem TU (x:Itm):uY x:=by
 have main:∀ N,∀ x:Itm,cnt x≤N→uY x:=by
  intro N
  induction N with
  | zero =>
   intro x hx
   have:0<cnt x:=by cases x;rw[cnt];omega
   omega
  | succ N ih =>
  intro x hx H hT k n ba bl bc ia il ic w c d ha hH hc hd
  obtain⟨rfl,rfl,rfl,rfl,hi⟩:=ha.eqs_;have ih':∀ y:Itm,cnt y<cnt x→uY y:=fun y hy=>ih y (by omega)
  rcases Nat.eq_zero_or_pos c with h0 | h0
  ·subst h0
   exact Vz x (H:=H) w d
  rcases(by omega:(x.kind<0∨8<x.kind)∨x.kind=0∨x.kind=1∨x.kind=2∨x.kind=3∨x.kind=4∨x.kind=5∨x.kind=6∨x.kind=7∨x.kind=8) with h | h | h | h | h | h | h | h | h | h
  ·exact TL x h w c d h0 hc
  ·exact Qw x h hT ih' hi w hH c d h0 hc hd
  ·exact Qx x h hT ih' hi w hH c d h0 hc hd
  ·exact Qy x h hT ih' hi w hH c d h0 hc hd
  ·exact Qz x h hT ih' hi w hH c d h0 hc hd
  ·exact R0 x h hT ih' hi w hH c d h0 hc hd
  ·exact R6 x h hT ih' hi w hH c d h0 hc hd
  ·exact R7 x h hT ih' hi w hH c d h0 hc hd
  ·exact R8 x h hT ih' hi w hH c d h0 hc hd
  exact R9 x h hT ih' hi w hH c d h0 hc hd
 exact main _ x (Nat.le_refl _)
theorem YV {x:Itm}{r:Nat}(h:zN x 256 0=some r):Good x 0∧(zX x).length≤1099511627776:=by
 obtain⟨h1,h2,h3⟩:=vx _ _ _ _ h;have:=h1.bytes h2
 exact⟨h1,by omega⟩
theorem nL {H:Snap}(hT:Tabs H) {k n:Int}{ba:Option Addr}{bl bc:Nat}{ia:Option Addr}{il ic:Nat}{x:Itm}(hx:ItemA H k n ba bl bc ia il ic x) (w:World) (hH:Holds w H) :
  Calls Tryz.prog 83 #[.agg #[.int .i64 k,.int .u64 n,.slice ba bl bc,.slice ia il ic]] w fun e w'=>e=.returned (.bool (yG x))∧Below w.heap.size w w':=by
 obtain⟨rfl,rfl,rfl,rfl,mh⟩:=hx.eqs_;have hB:=Blk.new w 78 #[.int .i64 x.kind,.int .u64 x.n,.slice ba x.bytes.length bc,.slice ia x.items.length ic];have yZ:=zl w (zH x ba bc ia ic);have Ni:=hH.alloc (zH x ba bc ia ic);have L:=Hh (TU x H hT _ _ _ _ _ _ _ _ (w.alloc (zH x ba bc ia ic)) 256 0 mh.arg Ni (by omega) (by omega));have E0:=Wx x
 unfold dL at E0
 cases hl:zN x 256 0 with
 | none =>
  rw[hl]at L E0;have E:Hid (yG x=false):=by rw[Hid,← E0];rfl
  clear hl E0;go_enter Tryz.func83,Tryz.ntmps83
  go_wp2_with fail
  refine L.out.mono ?_
  rintro e w1 ⟨rfl,zP⟩
  have yX:=yZ.trans (zP.mono yZ.size)
  simp only[wX]
  go_wp2_with fail
  go_ret
  exact⟨by rw[E.out];rfl,yX⟩
 | some r =>
 rw[hl]at L E0;obtain⟨hg,tH⟩:=YV hl;have E:Hid (yG x=decide ((zX x).length≤4096)):=by rw[Hid,← E0];rfl
 have Xx:(0:Int)≤(r:Int):=by omega
 have RW:=Hh (fun w1:World=>fun h1:Holds w1 H=>vW x H _ _ ba _ bc ia _ ic w1 0 hg tH mh.arg h1);have rb:=Hh tH;clear hl E0 hg tH;go_enter Tryz.func83,Tryz.ntmps83
 go_wp2_with fail
 refine L.out.mono ?_
 rintro e w1 ⟨rfl,zP⟩
 have rZ:=hB.below zP;have yX:=yZ.trans (zP.mono yZ.size);have My:=Ni.below zP (Nat.le_refl _);have c0:=rZ.cell 0 rfl;have c1:=rZ.cell 1 rfl;have c2:=rZ.cell 2 rfl;have c3:=rZ.cell 3 rfl
 simp only[wX]
 go_wp2_with fail
 refine(RW.out _ My).mono ?_
 rintro e w2 ⟨r2,rfl,hf⟩
 obtain⟨RA,rc,rfl,_⟩:=hf.own.form;have iI:=yX.trans (hf.2.mono yX.size);have tH:=rb.out
 by_cases h4:(zX x).length≤4096
 ·have E1:Hid (yG x=true):=by rw[Hid,E.out,decide_eq_true h4]
  have Mp:((zX x).length:Int)≤4096:=by omega
  generalize (zX x).length=q at *
  clear h4 hf;go_wp2_with fail
  go_ret
  exact⟨by rw[E1.out];rfl,iI⟩
 have E1:Hid (yG x=false):=by rw[Hid,E.out,decide_eq_false h4]
 have Mp:¬ ((zX x).length:Int)≤4096:=by omega
 generalize (zX x).length=q at *
 clear h4 hf;go_wp2_with fail
 go_ret
 refine⟨?_,iI⟩
 rw[E1.out];show Ending.returned (Value.bool (decide _))=_
 rw[decide_eq_false (by omega)]
def T0 (w:World) (x:Itm) (e:Ending) (w':World):Prop :=
 (yG x=false∧e=.returned (.tuple #[.slice none 0 0,.int .i64 1])∧Below w.heap.size w w')∨
 (yG x=true∧∃ r,e=.returned (.tuple #[r,.int .i64 0])∧Fresh w (zX x) r w')
theorem Yg {H:Snap}(hT:Tabs H) {k n:Int}{ba:Option Addr}{bl bc:Nat}{ia:Option Addr}{il ic:Nat}{x:Itm}(hx:ItemA H k n ba bl bc ia il ic x) (w:World) (hH:Holds w H) :
  Calls Tryz.prog 68 #[.agg #[.int .i64 k,.int .u64 n,.slice ba bl bc,.slice ia il ic]] w (T0 w x):=by
 obtain⟨rfl,rfl,rfl,rfl,mh⟩:=hx.eqs_;have My:=hH.alloc (zH x ba bc ia ic);have zP:=zl w (zH x ba bc ia ic);have rZ:=Blk.new w 78 #[.int .i64 x.kind,.int .u64 x.n,.slice ba x.bytes.length bc,.slice ia x.items.length ic];have V:=Hh (nL hT mh.arg _ My);go_enter Tryz.func68,Tryz.ntmps68
 go_wp2_with fail
 refine V.out.mono ?_
 rintro e w2 ⟨rfl,yz⟩
 have vE:=rZ.below yz;have b0:=vE.cell 0 rfl;have b1:=vE.cell 1 rfl;have b2:=vE.cell 2 rfl;have b3:=vE.cell 3 rfl;have Sl:=My.below yz (Nat.le_refl _);have hb:=zP.trans (yz.mono zP.size)
 cases hv:yG x with
 | false =>
  have JT:=Hh hv;clear hv;go_wp2_with fail
  go_ret2
  exact .inl ⟨JT.out,rfl,hb⟩
 | true =>
 have hg:=(vO x).1 hv;have A:=Hh (vW x H _ _ ba _ bc ia _ ic w2 0 hg.1 (by omega) mh.arg Sl);have JT:=Hh hv;clear hv hg;go_wp2_with fail
 refine A.out.mono ?_
 rintro e w3 ⟨r,rfl,hf⟩
 go_wp2_with fail
 go_ret2
 exact .inr ⟨JT.out,_,rfl,hf.step hb⟩
theorem xJ (n:Int) (h1 : -9223372036854775808≤n) (h2:n≤9223372036854775807) {H:Snap}(w:World) (hH:Holds w H) :
  Calls Tryz.prog 44 #[.int .i64 n] w fun e w'=>∃ v,e=.returned v∧Gives w H (zh n) v w':=by
 by_cases h0:n<0
 ·have E:Hid (zh n=.mk 1 (-1-n).toNat [] []∧(-1-n).toNat<18446744073709551616∧-1-n=((-1-n).toNat:Int)):=⟨by rw[zh,if_pos h0],by omega,by omega⟩
  have K1:IntKind.u64.wrap (-1-n) = -1-n:=by rw[IntKind.wrap_u64];omega
  have K0:IntKind.i64.wrap (-1-n) = -1-n:=IntWalk.i64_in _ (by omega);clear h1 h2;go_enter Tryz.func44,Tryz.ntmps44
  go_wp2_with fail
  refine xS rfl rfl (Blk.new _ _ _) rfl rfl zp rfl ?_
  rw[E.out.1]
  exact⟨_,rfl,Gives.plain hH (zl _ _) (by omega) E.out.2.1 E.out.2.2⟩
 have E:Hid (zh n=.mk 0 n.toNat [] []∧n.toNat<18446744073709551616∧n=(n.toNat:Int)):=⟨by rw[zh,if_neg h0],by omega,by omega⟩
 have K1:IntKind.u64.wrap n=n:=by rw[IntKind.wrap_u64];omega
 have hn:=Int.not_lt.1 h0;clear h1 h2 h0;go_enter Tryz.func44,Tryz.ntmps44
 go_wp2_with fail
 refine xS rfl rfl (Blk.new _ _ _) rfl rfl zp rfl ?_
 rw[E.out.1]
 exact⟨_,rfl,Gives.plain hH (zl _ _) (by omega) E.out.2.1 E.out.2.2⟩
theorem vB {A:Option Addr}{n c:Nat}{l:List UInt8}(hn:n=l.length) (hl:l.length≤1099511627776) {H:Snap}(w:World) (hs:Src w A (l.map zg)) (hH:Holds w H) :
  Calls Tryz.prog 45 #[.slice A n c] w fun e w'=>∃ v,e=.returned v∧Gives w H (.mk 2 0 l []) v w':=by
 have HN:=Hh hn;clear hn;have ug:=hs.alloc zO;go_enter Tryz.func45,Tryz.ntmps45
 go_wp2_with (at_builtin;refine zf ?_)
 refine zv rfl (.const (.slice none 0 0)) (.tmp 3) rfl (w.heap.size+1) (.slice none 0 0) [] rfl (OwnB.nil _ _) A n c l rfl HN.out ug (by simp;omega) (by simp) fun v' w1 hO hg _=>?_
 have hf:Fresh (w.alloc zO) l v' w1:=⟨by have:=hO.more (base':=(w.alloc zO).heap.size) (by simp);simpa [OwnB] using this,yT (by simpa [Value.ownBlock] using hg)⟩
 have hB:=(Blk.new w 78 #[.int .i64 0,.int .u64 0,.slice none 0 0,.slice none 0 0]).below hf.2;have HF:=Hh (hf.gives (k:=2) (hH.alloc zO) (by omega));obtain⟨A',c',rfl,_⟩:=hf.own.form;clear hO hg hf;go_wp2_with (with_reducible refine zx ?_)
 refine stI hB fun w2 vE yY=>?_
 go_wp2_with fail
 refine xS rfl rfl vE rfl rfl zp rfl ?_
 exact⟨_,rfl,HF.out.own (zl _ _) hH yY (Nat.le_refl _) (by simp)⟩
theorem gh (s:ByteArray) (hl:s.size≤1099511627776) {H:Snap}(w:World) (hH:Holds w H) :
  Calls Tryz.prog 58 #[.string s] w fun e w'=>∃ v,e=.returned v∧Gives w H (.mk 3 0 s.data.toList []) v w':=by
 obtain⟨g,c,w1,hr,hb,H',hG,hi⟩:=Zp (hH.alloc zO) s hl;have hB:=(Blk.new w 78 #[.int .i64 0,.int .u64 0,.slice none 0 0,.slice none 0 0]).below hb
 have HI:Gives (w.alloc zO) H (.mk 3 0 s.data.toList []) (.agg #[.int .i64 3,.int .u64 0,.slice (some ⟨g,0,none⟩) s.size c,.slice none 0 0]) w1:=by
  refine⟨some ⟨g,0,none⟩,c,none,0,H',by simp[ua,Itm.kind,Itm.n,Itm.bytes,Itm.items],hG, ?_⟩
  rw[IsItem]
  exact⟨⟨by omega,by omega,by omega,Nat.le_refl _,by omega⟩,hi,fun h=>absurd h (by simp)⟩
 have CI:=Hh HI;clear hb hi HI;go_enter Tryz.func58,Tryz.ntmps58
 go_wp2_with (with_reducible refine zx ?_)
 refine stI hB fun w2 vE yY=>?_
 go_wp2_with fail
 refine xS rfl rfl vE rfl rfl zp rfl ?_
 exact⟨_,rfl,CI.out.own (zl _ _) hH yY (Nat.le_refl _) (by simp)⟩
structure IsInts (H:Snap) (A:Option Addr) (c:Nat) (l:List Int):Prop where
 le:l.length≤c
 max:c≤9223372036854775807
 row:Row H A (l.map (Value.int .i64))
 bnd:∀ x∈l, -9223372036854775808≤x∧x≤9223372036854775807
theorem IsInts.mono {H K:Snap}{A:Option Addr}{c:Nat}{l:List Int}(h:IsInts H A c l) (hl:H.le K):IsInts K A c l:=⟨h.le,h.max,h.row.mono hl,h.bnd⟩
def Deck (w:World) (g:Nat) (H:Snap):Prop:=∃ (A:Option Addr) (c:Nat) (l:List Int) (k:Nat),Blk w g 52 #[.slice A l.length c,.int .i64 k]∧IsInts H A c l∧k≤l.length
theorem Deck.mono {w:World}{g:Nat}{H K:Snap}(h:Deck w g H) (hl:H.le K):Deck w g K:=by
 obtain⟨A,c,l,k,h1,h2,h3⟩:=h
 exact⟨A,c,l,k,h1,h2.mono hl,h3⟩
theorem Deck.below {w w':World}{g:Nat}{H:Snap}(h:Deck w g H) (hb:Below w.heap.size w w'):Deck w' g H:=by
 obtain⟨A,c,l,k,h1,h2,h3⟩:=h
 exact⟨A,c,l,k,h1.below hb,h2,h3⟩
theorem Deck.lt {w:World}{g:Nat}{H:Snap}(h:Deck w g H):g<w.heap.size:=by
 obtain⟨A,c,l,k,h1,h2,h3⟩:=h
 exact h1.lt
def dV (v n:Int):Int:=if v.tmod n<0 then v.tmod n+n else v.tmod n
theorem ax (v n:Int) (hn:0<n):0≤dV v n∧dV v n<n:=by
 have h1:=Int.tmod_lt_of_pos v hn;have h2 : -n<v.tmod n:=by have:=Int.tmod_lt_of_pos (-v) hn;rw[Int.neg_tmod]at this;omega
 unfold dV
 split <;> omega
theorem U1 (v n:Int) (hn:0<n) (oQ:n≤1099511627776) (w:World) :
  Calls Tryz.prog 28 #[.int .i64 v,.int .i64 n] w fun e w'=>e=.returned (.int .i64 (dV v n))∧w=w':=by
 have h1:=Int.tmod_lt_of_pos v hn;have h2 : -n<v.tmod n:=by have:=Int.tmod_lt_of_pos (-v) hn;rw[Int.neg_tmod]at this;omega
 have zG:(n==0)=false:=by rw[beq_eq_false_iff_ne];omega
 have oY:(n=0)=False:=eq_false (by omega);have K1:IntKind.i64.wrap (v.tmod n)=v.tmod n:=IntWalk.i64_in _ (by omega)
 by_cases h0:v.tmod n<0
 ·have E:Hid (dV v n=v.tmod n+n):=by rw[Hid,dV,if_pos h0]
  go_enter Tryz.func28,Tryz.ntmps28
  go_wp2_with fail
  go_ret
  exact⟨by rw[E.out];rfl,rfl⟩
 have E:Hid (dV v n=v.tmod n):=by rw[Hid,dV,if_neg h0]
 go_enter Tryz.func28,Tryz.ntmps28
 go_wp2_with fail
 go_ret
 exact⟨by rw[E.out];rfl,rfl⟩
theorem OO {H:Snap}{A:Option Addr}{c:Nat}{l:List Int}(hl:IsInts H A c l) (w:World) :
  Calls Tryz.prog 6 #[.slice A l.length c] w fun e w'=>e=.returned (.pointer (some ⟨w.heap.size,0,none⟩))∧Deck w' w.heap.size H∧Below w.heap.size w w':=by
 have hB:=Blk.new w 52 #[.slice A l.length c,.int .i64 0];have hb:=zl w (.cells #[.slice A l.length c,.int .i64 0] 52);have HL:=Hh hl;clear hl;go_enter Tryz.func6,Tryz.ntmps6
 go_wp2_with fail
 go_ret
 exact⟨rfl,⟨A,c,l,0,hB,HL.out,Nat.zero_le _⟩,hb⟩
theorem Td:(Tryz.prog.info? 3).map (·.size)=some 1:=by kernel_rfl
theorem RE {H:Snap}{g:Nat}(w:World) (hD:Deck w g H) (hH:Holds w H) (hg:H g=none) (n:Int) (hn:0<n) (oQ:n≤1099511627776) :
  Calls Tryz.prog 9 #[.pointer (some ⟨g,0,none⟩),.int .i64 n] w fun e w'=>∃ r:Int,e=.returned (.int .i64 r)∧0≤r∧r<n∧Deck w' g H∧w.grownBy w' (some g):=by
 obtain⟨A,c,l,k,hB,hl,hk⟩:=hD;have hc:=hl.max;have tH:=hl.le;have HL:=Hh hl;have ry:=hB.drew;clear hl;have J7:(k:Int)+1≤9223372036854775807∨l.length≤k:=by omega
 have I3:=Hh J7;have oJ:=Hh oQ;clear hc tH J7 oQ;go_enter Tryz.func9,Tryz.ntmps9
 go_upto_region 1 with fail
 refine zn 9 (fun w'=>w'.cell? ⟨g,0,none⟩=some (.slice A l.length c)∧w'.cell? ⟨g,1,none⟩=some (.int .i64 k)) (by kernel_rfl) (⟨ry.cell 0 rfl,ry.cell 1 rfl⟩) (fun zy=>?_)
 refine Tk 0 rfl zy ?_
 refine Tk 1 rfl zy ?_
 refine Tk 2 rfl zy ?_
 refine Tk 3 rfl zy ?_
 refine Tk 4 rfl zy ?_
 refine Tk 5 rfl zy ?_
 refine Tk 6 rfl zy ?_
 refine Tk 7 rfl zy ?_
 refine Tk 8 rfl zy ?_
 refine To 9 rfl fun K hK=>?_
 go_simp
 refine Kz hK ?_
 clear hK K
 refine Wd ?_
 clear zy
 by_cases yy:k<l.length
 ·have ei:¬ (l.length:Int)≤k:=by omega
  have c1:=ry.cell 1 rfl;have pX:(k:Int)+1≤9223372036854775807:=by have:=I3.out;omega
  have nY:IntKind.i64.wrap ((k:Int)+1)=(k:Int)+1:=IntWalk.i64_in _ (by omega);clear pX;go_wp2_with (with_reducible refine zx ?_)
  refine zr rfl _ _ _ rfl rfl g 1 (.int .i64 ((k:Int)+1)) rfl rfl _ _ ry Td (by simp) rfl fun w2 vE yY=>?_
  obtain⟨ib,io,rfl,uH⟩:=HL.out.row (by intro h;rw[List.map_eq_nil_iff]at h;subst h;simp at yy);have yY:=sB (sA (vN w (some g))) yY (.inl rfl);have Sl:Holds w2 H:=hH.grown yY (by rintro q ⟨⟩;exact hg);have hx:=uH k (.int .i64 l[k]) (by simp[yy]);have pi:Blk w2 g 52 #[.slice (some ⟨ib,io,none⟩) l.length c,.int .i64 ((k:Int)+1)]:=vE;have MD:=Hh (fun w3:World=>U1 l[k] n hn oJ.out w3);have Sn:=ax l[k] n hn
  generalize l[k]'yy=x at *
  have zA:=Sl.drew;have Mr:=pi.drew;have xf:=sA yY;have Bv:(k:Int)<l.length:=by omega
  have ug:IntKind.i64.wrap ((k:Int)+1-1)=(k:Int):=by rw[show(k:Int)+1-1=k by omega];exact IntWalk.i64_in _ (by have:=I3.out;omega)
  have JP:IntKind.i64.wrap (k:Int)=(k:Int):=IntWalk.i64_in _ (by have:=I3.out;omega);have lU:(0:Int)≤k:=by omega
  have EJ:=Hh Sn;clear vE yY Sl c1 ry hB uH Sn ei;go_upto_region 4 with fail
  refine zn 13 (fun w'=>w'.cell? ⟨g,0,none⟩=some (.slice (some ⟨ib,io,none⟩) l.length c)∧w'.cell? ⟨g,1,none⟩=some (.int .i64 ((k:Int)+1))∧w'.cell? ⟨ib,io+k,none⟩=some (.int .i64 x)) (by kernel_rfl) (⟨Mr.cell 0 rfl,Mr.cell 1 rfl,zA.cell hx⟩) (fun zy=>?_)
  refine Tk 0 rfl zy ?_
  refine Tk 1 rfl zy ?_
  refine Tk 2 rfl zy ?_
  refine Tk 3 rfl zy ?_
  refine Tk 4 rfl zy ?_
  refine Tk 5 rfl zy ?_
  refine Tk 6 rfl zy ?_
  refine Tk 7 rfl zy ?_
  refine Tk 8 rfl zy ?_
  refine Tk 9 rfl zy ?_
  refine Tk 10 rfl zy ?_
  refine Tk 11 rfl zy ?_
  refine To 12 rfl fun K hK=>?_
  go_simp
  refine(MD.out _).mono ?_
  rintro e w5 ⟨rfl,rfl⟩
  refine Ko hK ?_ fun zy=>?_
  ·exact⟨Mr.cell 0 rfl,Mr.cell 1 rfl,zA.cell hx⟩
  clear hK K
  refine To 13 rfl fun K hK=>?_
  go_simp
  refine Kz hK ?_
  clear hK K
  refine Wd ?_
  clear zy;go_wp2_with fail
  go_ret
  exact⟨_,rfl,EJ.out.1,EJ.out.2,⟨_,c,l,k+1,Mr,HL.out,by omega⟩,xf⟩
 have ei:(l.length:Int)≤k:=by omega
 go_wp2_with fail
 go_ret
 exact⟨0,rfl,by omega,hn,⟨A,c,l,k,ry,HL.out,hk⟩,sA (vN w _)⟩
def oB (W:World):Snap:=fun b=>W.heap[b]?
theorem g9 (W:World) (a:Addr):(oB W).cell? a=W.cell? a:=rfl
theorem Zt (W:World):Holds W (oB W):=fun _ _ h=>h
theorem YK {W:World}(h:Lib.Utf8Tabs 0 1 W):Tabs (oB W):=fun _ hw =>
 ⟨fun c hc=>hw.cell (h.1 c hc),fun i hi=>⟨hw.cell (h.2 i hi).1,hw.cell (h.2 i hi).2⟩⟩
theorem Yn {n:Int}(h:(Lit.int .i64 n).wf=true) : -9223372036854775808≤n∧n≤9223372036854775807:=by
 simp[Lit.wf,IntKind.min,IntKind.max,IntKind.signed,IntKind.bits]at h
 omega
theorem Wy {n:Int}(h:(Lit.int .u8 n).wf=true):0≤n∧n<256:=by
 simp[Lit.wf,IntKind.min,IntKind.max,IntKind.signed,IntKind.bits]at h
 omega
theorem Vw {W:World}{a:Addr}{len cap:Nat}{zs:List Int}(hl:len≤cap) (hm:cap≤maxLen) (hz:len≤zs.length)
  (hc:∀ i,i<zs.length→W.cell? (a.add i)=some (.int .i64 (zs.getD i 0))) (wf:∀ n∈zs,(Lit.int .i64 n).wf=true):IsInts (oB W) (some a) cap (zs.take len)∧(zs.take len).length=len:=by
 have z6:(zs.take len).length=len:=by rw[List.length_take];omega
 refine⟨⟨by rw[z6];exact hl,by simpa [maxLen] using hm,fun xq=>?_,fun x hx=>Yn (wf x (List.mem_of_mem_take hx))⟩,z6⟩
 have h0:0<len:=by
  rcases Nat.eq_zero_or_pos len with h | h
  ·subst h;simp at xq
  exact h
 obtain⟨b,off,rfl,uH⟩:=ints_at hc (by omega)
 refine⟨b,off,rfl,fun j v hj=>?_⟩
 rw[List.getElem?_map]at hj;obtain⟨x,hx,rfl⟩:=Option.map_eq_some_iff.1 hj;have u9:=(List.getElem?_eq_some_iff.1 hx).1;rw[z6]at u9;rw[g9,uH j (by omega)];rw[List.getElem?_take,if_pos u9]at hx
 simp[List.getD,hx]
def t7 (zs:List Int):List UInt8:=zs.map fun n=>u8 n.toNat
theorem fs {W:World}{a:Addr}{len cap:Nat}{zs:List Int}(hl:len≤cap) (hm:cap≤maxLen) (hz:len≤zs.length)
  (hc:∀ i,i<zs.length→W.cell? (a.add i)=some (.int .u8 (zs.getD i 0))) (wf:∀ n∈zs,(Lit.int .u8 n).wf=true):IsBytes (oB W) (some a) cap (t7 (zs.take len))∧(t7 (zs.take len)).length=len:=by
 have z6:(t7 (zs.take len)).length=len:=by rw[t7,List.length_map,List.length_take];omega
 refine⟨⟨by rw[z6];exact hl,by simpa [maxLen] using hm,fun xq=>?_⟩,z6⟩
 have h0:0<len:=by
  rcases Nat.eq_zero_or_pos len with h | h
  ·subst h;simp[t7]at xq
  exact h
 obtain⟨b,off,rfl,uH⟩:=ints_at hc (by omega)
 refine⟨b,off,rfl,fun j v hj=>?_⟩
 rw[t7,List.map_map,List.getElem?_map]at hj;obtain⟨x,hx,rfl⟩:=Option.map_eq_some_iff.1 hj;rw[List.getElem?_take]at hx
 split at hx
 ·rename_i u9
  have hb:=Wy (wf x (List.mem_of_getElem? hx));rw[g9,uH j (by omega)]
  simp[List.getD,hx,zg,gu]
  omega
 cases hx
def beN (l:List UInt8):Nat:=l.foldl (fun x c=>x*256+c.toNat) 0
theorem T9 (l:List UInt8) (c:UInt8):beN (l++[c])=beN l*256+c.toNat:=by simp[beN]
theorem xX (l:List UInt8):beN l<256 ^ l.length:=by
 suffices h:∀ (l:List UInt8) (a:Nat),l.foldl (fun x c=>x*256+c.toNat) a<(a+1)*256 ^ l.length by
  have:=h l 0;rw[Nat.zero_add,Nat.one_mul]at this
  exact this
 intro l
 induction l with
 | nil=>intro a;simp
 | cons c l ih =>
 intro a
 have hc:=c.toNat_lt;rw[List.foldl_cons,List.length_cons,Nat.pow_succ]
 refine Nat.lt_of_lt_of_le (ih _) ?_
 have:(a*256+c.toNat+1)*256 ^ l.length≤((a+1)*256)*256 ^ l.length:=Nat.mul_le_mul_right _ (by omega);rw[Nat.mul_assoc,Nat.mul_comm 256]at this
 exact this
theorem ur {c:UInt8}{n:Nat}(h:n%256=c.toNat):u8 n=c:=by
 apply UInt8.toNat_inj.1
 rw[gu,h]
theorem QI {l:List UInt8}(h:l.length=1):∃ a,l=[a]:=by
 match l,h with
 | [a],_=>exact⟨a,rfl⟩
theorem QJ {l:List UInt8}(h:l.length=2):∃ a b,l=[a,b]:=by
 match l,h with
 | [a,b],_=>exact⟨a,b,rfl⟩
theorem U0 {l:List UInt8}(h:l.length=4):∃ a b c d,l=[a,b,c,d]:=by
 match l,h with
 | [a,b,c,d],_=>exact⟨a,b,c,d,rfl⟩
theorem L9 {l:List UInt8}(h:l.length=8):∃ a b c d e f g i,l=[a,b,c,d,e,f,g,i]:=by
 match l,h with
 | [a,b,c,d,e,f,g,i],_=>exact⟨a,b,c,d,e,f,g,i,rfl⟩
theorem LQ (a:UInt8):beN [a]=a.toNat:=by simp[beN]
theorem LR (a b:UInt8):beN [a,b]=a.toNat*256+b.toNat:=by simp[beN]
theorem LT (a b c d:UInt8):beN [a,b,c,d]=a.toNat*16777216+b.toNat*65536+c.toNat*256+d.toNat:=by simp[beN];omega
theorem GY (a b c d e f g i:UInt8):beN [a,b,c,d,e,f,g,i]=a.toNat*72057594037927936+b.toNat*281474976710656+c.toNat*1099511627776+d.toNat*4294967296+e.toNat*16777216+f.toNat*65536+g.toNat*256+i.toNat:=by simp[beN];omega
theorem XW {l:List UInt8}(h:l.length=8):be8 (beN l) 8=l:=by
 obtain⟨a,b,c,d,e,f,g,i,rfl⟩:=L9 h;have ha:=a.toNat_lt;have hb:=b.toNat_lt;have hc:=c.toNat_lt;have hd:=d.toNat_lt;have he:=e.toNat_lt;have hf:=f.toNat_lt;have hg:=g.toNat_lt;have hi:=i.toNat_lt
 rw[GY]
 simp only[be8,Nat.reducePow,Nat.reduceMul,Nat.reduceSub,List.nil_append,List.cons_append]
 rw[ur (c:=a) (by omega),ur (c:=b) (by omega),ur (c:=c) (by omega),ur (c:=d) (by omega),ur (c:=e) (by omega),ur (c:=f) (by omega),ur (c:=g) (by omega),ur (c:=i) (by omega)]
def zc:List UInt8→Except Nat (Nat×Nat×Nat)
 | []=>.error 2
 | f::t =>
 if 27<f.toNat%32 then .error 3
 else if f.toNat%32<24 then .ok (f.toNat,f.toNat%32,1)
 else if t.length<2 ^ (f.toNat%32-24) then .error 2
 else if f.toNat/32<7∧(zj 0 (beN (t.take (2 ^ (f.toNat%32-24))))).length≠1+2 ^ (f.toNat%32-24) then .error 4
 else .ok (f.toNat,beN (t.take (2 ^ (f.toNat%32-24))),1+2 ^ (f.toNat%32-24))
def vq (v:Nat):Nat :=
 if v/1024%32=31 then v/32768*9223372036854775808+9218868437227405312+v%1024*4398046511104
 else if v/1024%32=0 then(if v%1024=0 then v/32768*9223372036854775808 else v/32768*9223372036854775808+(999+(v%1024).log2)*4503599627370496+(v%1024*2 ^ (52-(v%1024).log2)-4503599627370496))
 else v/32768*9223372036854775808+(v/1024%32+1008)*4503599627370496+v%1024*4398046511104
def vd (v:Nat):Nat :=
 if v/8388608%256=255 then v/2147483648*9223372036854775808+9218868437227405312+v%8388608*536870912
 else if v/8388608%256=0 then(if v%8388608=0 then v/2147483648*9223372036854775808 else v/2147483648*9223372036854775808+(874+(v%8388608).log2)*4503599627370496+(v%8388608*2 ^ (52-(v%8388608).log2)-4503599627370496))
 else v/2147483648*9223372036854775808+(v/8388608%256+896)*4503599627370496+v%8388608*536870912
def so (low n:Nat):Nat:=if low=25 then vq n else if low=26 then vd n else n
def x8 (low n:Nat):Except Nat Itm :=
 if low<24 then .ok (.mk 7 n [] [])
 else if low=24 then(if n<32 then .error 4 else .ok (.mk 7 n [] []))
 else if(isNaN (so low n)&&so low n != zD)||(xt (so low n)).length != 1+2 ^ (low-24) then .error 4
 else .ok (.mk 8 (so low n) [] [])
inductive PL where
 | err (e:Nat)
 | ok (l:List Itm) (k c:Nat)
inductive PR where
 | err (e:Nat)
 | ok (x:Itm) (k c:Nat)
def uf (p:List UInt8→Nat→PR):Nat→List UInt8→Nat→PL
 | 0,_,c=>.ok [] 0 c
 | n+1,b,c=>match p b c with
  | .err e=>.err e
  | .ok x k c'=>match uf p n (b.drop k) c' with
   | .err e=>.err e
   | .ok l k' c''=>.ok (x::l) (k+k') c''
def ms (last:Option (List UInt8)) (key:List UInt8):Option Nat :=
 match last with
 | none=>none
 | some l=>if Lib.compareBytes key l=0 then some 7 else if Lib.compareBytes key l<0 then some 6 else none
def pQ (p:List UInt8→Nat→PR):Nat→List UInt8→Nat→Option (List UInt8)→PL
 | 0,_,c,_=>.ok [] 0 c
 | n+1,b,c,last=>match p b c with
  | .err e=>.err e
  | .ok x k c'=>match ms last (b.take k) with
   | some e=>.err e
   | none=>match p (b.drop k) c' with
    | .err e=>.err e
    | .ok y k' c''=>match pQ p n (b.drop (k+k')) c'' (some (b.take k)) with
     | .err e=>.err e
     | .ok l k'' c3=>.ok (x::y::l) (k+k'+k'') c3
def zd:Nat→List UInt8→Nat→PR
 | d,b,c =>
 if 256≤c then .err 8
 else match zc b with
  | .error e=>.err e
  | .ok (f,n,k) =>
  if f/32≤1 then .ok (.mk (f/32:Nat) n [] []) k (c+1)
  else if f/32≤3 then
   (if b.length<k+n then .err 2
   else if f/32=3∧Lib.validD ((b.drop k).take n)=false then .err 5
   else .ok (.mk (f/32:Nat) 0 ((b.drop k).take n) []) (k+n) (c+1))
  else if f/32=7 then
   (match x8 (f%32) n with
   | .error e=>.err e
   | .ok x=>.ok x k (c+1))
  else match d with
   | 0=>.err 8
   | d+1 =>
   if f/32=6 then(match zd d (b.drop k) (c+1) with
    | .err e=>.err e
    | .ok x k' c'=>.ok (.mk 6 n [] [x]) (k+k') c')
   else if f/32=5 then(match pQ (zd d) n (b.drop k) (c+1) none with
    | .err e=>.err e
    | .ok l k' c'=>.ok (.mk 5 0 [] l) (k+k') c')
   else(match uf (zd d) n (b.drop k) (c+1) with
    | .err e=>.err e
    | .ok l k' c'=>.ok (.mk 4 0 [] l) (k+k') c')
theorem YJ {m low:Nat}(xe:24≤low∧low≤27) {t:List UInt8}(ht:t.length=2 ^ (low-24)) (h:(zj 0 (beN t)).length=1+2 ^ (low-24)):zj m (beN t)=u8 (m*32+low)::t:=by
 rw[zi]at h
 rcases(by omega:low=24∨low=25∨low=26∨low=27) with rfl | rfl | rfl | rfl
 ·obtain⟨a,rfl⟩:=QI (by simpa using ht);have:=a.toNat_lt;rw[LQ]at h⊢;rw[o3]
  have h1:24≤a.toNat:=by
   simp at h
   repeat' split at h
   all_goals omega
  simp only[i3,i4,show ¬ a.toNat<24 by omega,show a.toNat<256 by omega,if_true,if_false]
  rw[ur (n:=a.toNat) (c:=a) (by omega)]
 ·obtain⟨a,b,rfl⟩:=QJ (by simpa using ht);have ha:=a.toNat_lt;have hb:=b.toNat_lt
  rw[LR]at h⊢;obtain⟨q,hq⟩:∃ q,a.toNat*256+b.toNat=q:=⟨_,rfl⟩
  rw[hq]at h⊢
  have h1:256≤q:=by
   simp at h
   repeat' split at h
   all_goals omega
  rw[o3]
  simp only[i3,i4,show ¬ q<24 by omega,show ¬ q<256 by omega,show q<65536 by omega,if_true,if_false]
  rw[ur (n:=q/256) (c:=a) (by omega),ur (n:=q) (c:=b) (by omega)]
 ·obtain⟨a,b,c,d,rfl⟩:=U0 (by simpa using ht);have ha:=a.toNat_lt;have hb:=b.toNat_lt;have hc:=c.toNat_lt;have hd:=d.toNat_lt
  rw[LT]at h⊢;obtain⟨q,hq⟩:∃ q,a.toNat*16777216+b.toNat*65536+c.toNat*256+d.toNat=q:=⟨_,rfl⟩
  rw[hq]at h⊢
  have h1:65536≤q:=by
   simp at h
   repeat' split at h
   all_goals omega
  rw[o3]
  simp only[i3,i4,show ¬ q<24 by omega,show ¬ q<256 by omega,show ¬ q<65536 by omega,show q<4294967296 by omega,if_true,if_false]
  rw[ur (n:=q/16777216) (c:=a) (by omega),ur (n:=q/65536) (c:=b) (by omega),ur (n:=q/256) (c:=c) (by omega),ur (n:=q) (c:=d) (by omega)]
 have h1:4294967296≤beN t:=by
  simp at h
  repeat' split at h
  all_goals omega
 rw[o3]
 simp only[i3,i4,show ¬ beN t<24 by omega,show ¬ beN t<256 by omega,show ¬ beN t<65536 by omega,show ¬ beN t<4294967296 by omega,if_false]
 rw[XW (by simpa using ht)]
structure HeadIs (b:List UInt8) (f n k:Nat):Prop where
 le:k≤b.length
 pos:0<k
 f_lt:f<256
 low:f%32≤27
 small:f%32<24→n=f%32∧k=1∧b.take k=[u8 f]
 wide:24≤f%32→k=1+2 ^ (f%32-24)∧∃ t,t.length=2 ^ (f%32-24)∧b.take k=u8 f::t∧n=beN t
 n_lt:n<18446744073709551616
 enc:f/32<7→zj (f/32) n=b.take k
theorem tI {b:List UInt8}{f n k:Nat}(h:zc b=.ok (f,n,k)):HeadIs b f n k:=by
 cases b with
 | nil=>cases h
 | cons g t =>
 have hg:=g.toNat_lt
 simp only[zc]at h
 split at h
 ·cases h
 rename_i q1
 split at h
 ·rename_i q2
  injection h with h
  simp only[Prod.mk.injEq]at h
  obtain⟨rfl,rfl,rfl⟩:=h;have hu:u8 g.toNat=g:=ur (by omega)
  refine⟨by simp,by omega,hg,by omega,fun _=>⟨rfl,rfl,by simp[hu]⟩,fun h=>by omega,by omega,fun h7=>?_⟩
  rw[o3]
  simp only[i3,i4,q2,if_true]
  rw[show g.toNat/32*32+g.toNat%32=g.toNat by omega,hu]
  simp
 rename_i q2
 split at h
 ·cases h
 rename_i q3
 split at h
 ·cases h
 rename_i q4
 injection h with h
 simp only[Prod.mk.injEq]at h
 obtain⟨rfl,rfl,rfl⟩:=h;have hu:u8 g.toNat=g:=ur (by omega);obtain⟨low,xe⟩:∃ low,g.toNat%32=low:=⟨_,rfl⟩
 rw[xe]at q1 q2 q3 q4⊢
 have hz:2 ^ (low-24)≤8:=by
  rcases(by omega:low=24∨low=25∨low=26∨low=27) with rfl | rfl | rfl | rfl <;> decide
 have JR:(t.take (2 ^ (low-24))).length=2 ^ (low-24):=by rw[List.length_take];omega
 have ht:(g::t).take (1+2 ^ (low-24))=g::t.take (2 ^ (low-24)):=by rw[Nat.add_comm,List.take_succ_cons]
 refine⟨by rw[List.length_cons];omega,by omega,hg,by omega,fun h=>by omega,fun _=>⟨by rw[xe],_,by rw[xe];exact JR,by rw[ht,hu],rfl⟩, ?_,fun h7=>?_⟩
 ·refine Nat.lt_of_lt_of_le (xX _) ?_
  rw[JR]
  exact Nat.pow_le_pow_right (n:=256) (by omega) hz
 rw[ht,YJ (low:=low) (by omega) JR (by
  rcases Nat.lt_or_ge 0 1 with _ | _
  ·exact Classical.byContradiction fun h=>q4 ⟨h7,h⟩
  exact absurd ‹1≤0› (by omega)),show g.toNat/32*32+low=g.toNat by omega,hu]
theorem qm {n s e m:Nat}(h:n=s*9223372036854775808+e*4503599627370496+m) (hs:s≤1) (he:e<2048) (hm:m<4503599627370496) :
  n/4503599627370496%2048=e∧n%4503599627370496=m∧n/9223372036854775808=s:=by subst h;refine⟨?_, ?_, ?_⟩ <;> omega
theorem aC {n v s x f:Nat}(h:UE n v s x f):xL n 5 10=some v:=by
 obtain⟨a1,a2,a3,a4,h⟩:=h
 rcases h with ⟨h1,h2,h3⟩ | ⟨h1,h2,h3⟩ | ⟨h1,h2,h3⟩ | ⟨h1,t,full,h2,h3,h4,h5,h6,h7⟩
 ·obtain⟨k1,k2,k3⟩:=qm (n:=n) (s:=s) (e:=2047) (m:=0) (by rw[h3]) a1 (by omega) (by omega);rw[xL]
  simp only[Nat.reducePow,Nat.reduceSub,Nat.reduceAdd,Nat.reduceMul]
  rw[k1,k2,k3,if_pos rfl,if_pos rfl];congr 1;omega
 ·obtain⟨k1,k2,k3⟩:=qm (n:=n) (s:=s) (e:=0) (m:=0) (by rw[h3,Nat.zero_mul,Nat.add_zero]) a1 (by omega) (by omega);rw[xL]
  simp only[Nat.reducePow,Nat.reduceSub,Nat.reduceAdd,Nat.reduceMul]
  rw[k1,k2,k3,if_neg (by omega),if_pos rfl,if_pos rfl];congr 1;omega
 ·obtain⟨k1,k2,k3⟩:=qm (n:=n) (s:=s) (e:=x+1008) (m:=f*4398046511104) (by omega) a1 (by omega) (by omega);rw[xL]
  simp only[Nat.reducePow,Nat.reduceSub,Nat.reduceAdd,Nat.reduceMul]
  rw[k1,k2,k3];rw[if_neg (by omega),if_neg (by omega),if_neg (by omega),if_pos (by omega),if_pos (by omega)];congr 1;omega
 have e2:2 ^ (t+1)*2 ^ (52-t)=9007199254740992:=by
  rw[← Nat.pow_add,show t+1+(52-t)=53 by omega]
 have b2:=Nat.mul_lt_mul_of_pos_right h4 (Nat.two_pow_pos (52-t));rw[e2,← h5]at b2;obtain⟨k1,k2,k3⟩:=qm (n:=n) (s:=s) (e:=999+t) (m:=full-4503599627370496) h7 a1 (by omega) (by omega);rw[xL]
 simp only[Nat.reducePow,Nat.reduceSub,Nat.reduceAdd,Nat.reduceMul]
 rw[k1,k2,k3];rw[if_neg (by omega),if_neg (by omega),if_neg (by omega),if_neg (by omega),if_neg (by omega),show 43+(1023-(999+t)-15)=52-t by omega,show full-4503599627370496+4503599627370496=full by omega,h5,if_pos (Nat.mul_mod_left _ _),Nat.mul_div_cancel _ (Nat.two_pow_pos _)];congr 1;omega
theorem o4 {f t:Nat}(h1:2 ^ t≤f) (h2:f<2 ^ (t+1)) (ht:t≤52):4503599627370496≤f*2 ^ (52-t)∧f*2 ^ (52-t)<9007199254740992:=by
 have e1:2 ^ t*2 ^ (52-t)=4503599627370496:=by
  rw[← Nat.pow_add,show t+(52-t)=52 by omega]
 have e2:2 ^ (t+1)*2 ^ (52-t)=9007199254740992:=by
  rw[← Nat.pow_add,show t+1+(52-t)=53 by omega]
 have b1:=Nat.mul_le_mul_right (2 ^ (52-t)) h1;have b2:=Nat.mul_lt_mul_of_pos_right h2 (Nat.two_pow_pos (52-t))
 omega
theorem gP {v:Nat}(hv:v<65536) (hn:¬ (v/1024%32=31∧v%1024≠0)):UE (vq v) v (v/32768) (v/1024%32) (v%1024)∧vq v<18446744073709551616:=by
 obtain⟨s,hs⟩:∃ s,v/32768=s:=⟨_,rfl⟩
 obtain⟨x,hx⟩:∃ x,v/1024%32=x:=⟨_,rfl⟩
 obtain⟨f,hf⟩:∃ f,v%1024=f:=⟨_,rfl⟩
 have ug:s≤1:=by omega
 have mS:x≤31:=by omega
 have rN:f<1024:=by omega
 have XP:v=s*32768+x*1024+f:=by omega
 rw[hx,hf]at hn;rw[vq,hs,hx,hf];clear hs hx hf
 by_cases h1:x=31
 ·have h0:f=0:=by omega
  subst h0;rw[if_pos h1]
  exact⟨⟨ug,XP,by omega,mS,.inl ⟨h1,rfl,by omega⟩⟩,by omega⟩
 rw[if_neg h1]
 by_cases h2:x=0
 ·rw[if_pos h2]
  by_cases h0:f=0
  ·rw[if_pos h0]
   exact⟨⟨ug,XP,by omega,mS,.inr (.inl ⟨h2,h0,rfl⟩)⟩,by omega⟩
  rw[if_neg h0];have a1:2 ^ f.log2≤f:=Nat.log2_self_le h0;have a2:f<2 ^ (f.log2+1):=Nat.lt_log2_self;have a3:f.log2<10:=(Nat.log2_lt h0).2 (by simpa using rN)
  generalize f.log2=t at a1 a2 a3
  have b:=o4 a1 a2 (by omega);obtain⟨full,pN⟩:∃ full,f*2 ^ (52-t)=full:=⟨_,rfl⟩
  rw[pN]at b⊢
  exact⟨⟨ug,XP,by omega,mS,.inr (.inr (.inr ⟨h2,t,full,a3,a1,a2,pN.symm,b.1,rfl⟩))⟩,by omega⟩
 rw[if_neg h2]
 exact⟨⟨ug,XP,by omega,mS,.inr (.inr (.inl ⟨by omega,by omega,rfl⟩))⟩,by omega⟩
theorem gQ {v:Nat}(hv:v<4294967296) (hn:¬ (v/8388608%256=255∧v%8388608≠0)):gz (vd v) v (v/2147483648) (v/8388608%256) (v%8388608)∧vd v<18446744073709551616:=by
 obtain⟨s,hs⟩:∃ s,v/2147483648=s:=⟨_,rfl⟩
 obtain⟨x,hx⟩:∃ x,v/8388608%256=x:=⟨_,rfl⟩
 obtain⟨f,hf⟩:∃ f,v%8388608=f:=⟨_,rfl⟩
 have ug:s≤1:=by omega
 have mS:x≤255:=by omega
 have rN:f<8388608:=by omega
 have XP:v=s*2147483648+x*8388608+f:=by omega
 rw[hx,hf]at hn;rw[vd,hs,hx,hf];clear hs hx hf
 by_cases h1:x=255
 ·have h0:f=0:=by omega
  subst h0;rw[if_pos h1]
  exact⟨⟨ug,XP,by omega,mS,.inl ⟨h1,rfl,by omega⟩⟩,by omega⟩
 rw[if_neg h1]
 by_cases h2:x=0
 ·rw[if_pos h2]
  by_cases h0:f=0
  ·rw[if_pos h0]
   exact⟨⟨ug,XP,by omega,mS,.inr (.inl ⟨h2,h0,rfl⟩)⟩,by omega⟩
  rw[if_neg h0];have a1:2 ^ f.log2≤f:=Nat.log2_self_le h0;have a2:f<2 ^ (f.log2+1):=Nat.lt_log2_self;have a3:f.log2<23:=(Nat.log2_lt h0).2 (by simpa using rN)
  generalize f.log2=t at a1 a2 a3
  have b:=o4 a1 a2 (by omega);obtain⟨full,pN⟩:∃ full,f*2 ^ (52-t)=full:=⟨_,rfl⟩
  rw[pN]at b⊢
  exact⟨⟨ug,XP,by omega,mS,.inr (.inr (.inr ⟨h2,t,full,a3,a1,a2,pN.symm,b.1,rfl⟩))⟩,by omega⟩
 rw[if_neg h2]
 exact⟨⟨ug,XP,by omega,mS,.inr (.inr (.inl ⟨by omega,by omega,rfl⟩))⟩,by omega⟩
theorem U2 {n s m:Nat}(h:n=s*9223372036854775808+2047*4503599627370496+m) (hs:s≤1) (hm:m<4503599627370496) (h0:m≠0):isNaN n=true:=by
 obtain⟨k1,k2,_⟩:=qm h hs (by omega) hm;rw[isNaN]
 simp only[Nat.reducePow,k1,k2]
 simp[h0]
theorem tD {n e m s:Nat}(h:n=s*9223372036854775808+e*4503599627370496+m) (hs:s≤1) (he:e≤2047) (hm:m<4503599627370496) (h0:e=2047→m=0):isNaN n=false:=by
 obtain⟨k1,k2,_⟩:=qm h hs (by omega) hm;rw[isNaN]
 simp only[Nat.reducePow,k1,k2]
 rcases Nat.lt_or_ge e 2047 with h' | h'
 ·have:(e==2047)=false:=by simp;omega
  rw[this];rfl
 rw[h0 (by omega)];simp
theorem cU {n v s x f:Nat}(h:UE n v s x f):isNaN n=false:=by
 obtain⟨a1,a2,a3,a4,h⟩:=h
 rcases h with ⟨h1,h2,h3⟩ | ⟨h1,h2,h3⟩ | ⟨h1,h2,h3⟩ | ⟨h1,t,full,h2,h3,h4,h5,h6,h7⟩
 ·exact tD (s:=s) (e:=2047) (m:=0) (by rw[h3]) a1 (by omega) (by omega) (fun _=>rfl)
 ·exact tD (s:=s) (e:=0) (m:=0) (by rw[h3,Nat.zero_mul,Nat.add_zero]) a1 (by omega) (by omega) (fun _=>rfl)
 ·exact tD (s:=s) (e:=x+1008) (m:=f*4398046511104) (by omega) a1 (by omega) (by omega) (fun h=>by omega)
 have b:=o4 h3 h4 (by omega);rw[← h5]at b
 exact tD (s:=s) (e:=999+t) (m:=full-4503599627370496) h7 a1 (by omega) (by omega) (fun h=>by omega)
theorem cV {n v s x f:Nat}(h:gz n v s x f):isNaN n=false:=by
 obtain⟨a1,a2,a3,a4,h⟩:=h
 rcases h with ⟨h1,h2,h3⟩ | ⟨h1,h2,h3⟩ | ⟨h1,h2,h3⟩ | ⟨h1,t,full,h2,h3,h4,h5,h6,h7⟩
 ·exact tD (s:=s) (e:=2047) (m:=0) (by rw[h3]) a1 (by omega) (by omega) (fun _=>rfl)
 ·exact tD (s:=s) (e:=0) (m:=0) (by rw[h3,Nat.zero_mul,Nat.add_zero]) a1 (by omega) (by omega) (fun _=>rfl)
 ·exact tD (s:=s) (e:=x+896) (m:=f*536870912) (by omega) a1 (by omega) (by omega) (fun h=>by omega)
 have b:=o4 h3 h4 (by omega);rw[← h5]at b
 exact tD (s:=s) (e:=874+t) (m:=full-4503599627370496) h7 a1 (by omega) (by omega) (fun h=>by omega)
theorem Yo {v:Nat}(hv:v<65536) (h:v/1024%32=31∧v%1024≠0):isNaN (vq v)=true∧(vq v=zD↔v=32256):=by
 obtain⟨h1,h2⟩:=h;have e:vq v=v/32768*9223372036854775808+2047*4503599627370496+v%1024*4398046511104:=by rw[vq,if_pos h1]
 refine⟨U2 e (by omega) (by omega) (by omega), ?_⟩
 rw[e,zD]
 omega
theorem Yp {v:Nat}(hv:v<4294967296) (h:v/8388608%256=255∧v%8388608≠0):isNaN (vd v)=true:=by
 obtain⟨h1,h2⟩:=h;have e:vd v=v/2147483648*9223372036854775808+2047*4503599627370496+v%8388608*536870912:=by rw[vd,if_pos h1]
 exact U2 e (by omega) (by omega) (by omega)
theorem lf {n:Nat}(h:isNaN n=true):xt n=[u8 249,u8 126,u8 0]:=by rw[xt,if_pos h]
theorem j4 {n:Nat}(h:isNaN n=false):(xt n).length=(if(xL n 5 10).isSome then 3 else if(xL n 8 23).isSome then 5 else 9):=by
 rw[xt,if_neg (by simp[h])]
 cases xL n 5 10 with
 | some v=>rfl
 | none=>cases xL n 8 23 with
  | some v=>rfl
  | none=>simp[ld]
theorem YD {low n f:Nat}(hl:25≤low∧low≤27) {t:List UInt8}(ht:t.length=2 ^ (low-24)) (hn:n=beN t) (hf:f=so low n)
  (h1:¬ (isNaN f=true∧f≠zD)) (h2:(xt f).length=1+2 ^ (low-24)):xt f=u8 (7*32+low)::t∧f<18446744073709551616:=by
 rcases(by omega:low=25∨low=26∨low=27) with rfl | rfl | rfl
 ·obtain⟨a,b,rfl⟩:=QJ (by simpa using ht);have ha:=a.toNat_lt;have hb:=b.toNat_lt
  rw[LR]at hn;have hv:n<65536:=by omega
  rw[so,if_pos rfl]at hf
  by_cases hx:n/1024%32=31∧n%1024≠0
  ·obtain⟨q1,q2⟩:=Yo hv hx;rw[← hf]at q1 q2;have oT:f=zD:=Classical.byContradiction fun h=>h1 ⟨q1,h⟩
   have oQ:=q2.1 oT;rw[lf q1]
   refine⟨?_,by rw[oT];decide⟩
   rw[ur (n:=126) (c:=a) (by omega),ur (n:=0) (c:=b) (by omega)]
  obtain⟨q1,q2⟩:=gP hv hx;rw[← hf]at q1 q2
  refine⟨?_,q2⟩
  rw[xt,if_neg (by rw[cU q1];simp),aC q1]
  simp only
  rw[ur (n:=n/256) (c:=a) (by omega),ur (n:=n) (c:=b) (by omega)]
 ·obtain⟨a,b,c,d,rfl⟩:=U0 (by simpa using ht);have ha:=a.toNat_lt;have hb:=b.toNat_lt;have hc:=c.toNat_lt;have hd:=d.toNat_lt
  rw[LT]at hn;have hv:n<4294967296:=by omega
  rw[so,if_neg (by omega),if_pos rfl]at hf
  by_cases hx:n/8388608%256=255∧n%8388608≠0
  ·have q1:=Yp hv hx;rw[← hf]at q1;rw[lf q1]at h2
   simp at h2
  obtain⟨q1,q2⟩:=gQ hv hx;rw[← hf]at q1 q2
  refine⟨?_,q2⟩
  have q3:=cV q1;have q4:=aD q1;rw[j4 q3,q4]at h2
  have q5:xL f 5 10=none:=by
   cases h:xL f 5 10 with
   | none=>rfl
   | some v=>rw[h]at h2;simp at h2
  rw[xt,if_neg (by rw[q3];simp),q5,q4]
  simp only
  rw[ur (n:=n/16777216) (c:=a) (by omega),ur (n:=n/65536) (c:=b) (by omega),ur (n:=n/256) (c:=c) (by omega),ur (n:=n) (c:=d) (by omega)]
 have G4:t.length=8:=by simpa using ht
 have hb:=xX t;rw[G4,← hn]at hb;rw[so,if_neg (by omega),if_neg (by omega)]at hf;subst hf
 refine⟨?_,by omega⟩
 cases q3:isNaN f with
 | true =>
  rw[lf q3]at h2
  simp at h2
 | false =>
 rw[j4 q3]at h2
 have q5:xL f 5 10=none:=by
  cases h:xL f 5 10 with
  | none=>rfl
  | some v=>rw[h]at h2;simp at h2
 have q6:xL f 8 23=none:=by
  cases h:xL f 8 23 with
  | none=>rfl
  | some v=>rw[h,q5]at h2;simp at h2
 rw[xt,if_neg (by rw[q3];simp),q5,q6]
 simp only
 rw[hn,XW G4]
theorem sD {low n:Nat}{x:Itm}(hl:low≤27) {t:List UInt8}(n9:low<24→n=low∧t=[]) (hw:24≤low→t.length=2 ^ (low-24)∧n=beN t) (h:x8 low n=.ok x) :
  zX x=u8 (7*32+low)::t∧(∀ lv,Good x lv)∧x.n<18446744073709551616∧x.items=[]∧cnt x=1:=by
 rw[x8]at h
 have good7:∀ (n:Nat),(n<24∨32≤n∧n<256)→∀ lv,Good (.mk 7 n [] []) lv:=fun n hn lv=>by
  rw[Good]
  refine⟨?_, ?_,fun h=>by omega⟩
  ·rw[yF,if_pos (by simp[xR,Itm.kind])]
   rcases hn with hn | ⟨h1,h2⟩ <;> simp[wo,Itm.kind,Itm.n,Itm.bytes,Itm.items, *]
  rw[GoodL];trivial
 split at h
 ·rename_i q1
  injection h with h
  subst h;obtain⟨rfl,rfl⟩:=n9 q1
  refine⟨?_,good7 _ (.inl q1),by simp only[Itm.n];omega,rfl,by simp[cnt,xO]⟩
  rw[vh,if_neg (by simp[Itm.kind]),if_neg (by simp[Itm.n];omega)];have e:tj (.mk 7 n [] [])=n:=by simp[tj,Itm.kind,Itm.n]
  rw[e,zj,if_pos q1]
  simp[Itm.bytes,Itm.items,Itm.kind,ym]
 split at h
 ·rename_i q1 q2
  subst q2
  split at h
  ·cases h
  rename_i q3
  injection h with h
  subst h;obtain⟨ht,hn⟩:=hw (by omega);obtain⟨a,rfl⟩:=QI (by simpa using ht);have ha:=a.toNat_lt;rw[LQ]at hn
  refine⟨?_,good7 _ (.inr (by omega)),by simp only[Itm.n];omega,rfl,by simp[cnt,xO]⟩
  rw[vh,if_neg (by simp[Itm.kind]),if_pos (by simp[Itm.n,Itm.kind];omega)]
  simp only[Itm.n]
  rw[ur (n:=n) (c:=a) (by omega)]
 rename_i q1 q2
 split at h
 ·cases h
 rename_i q3
 injection h with h
 subst h;obtain⟨ht,hn⟩:=hw (by omega)
 simp only[Bool.or_eq_true,Bool.and_eq_true,bne_iff_ne,ne_eq,not_or]at q3
 obtain⟨q3,q4⟩:=q3;have q4':=Classical.not_not.1 q4;obtain⟨e,he⟩:=YD (low:=low) (n:=n) (by omega) ht hn rfl q3 q4'
 refine⟨?_,fun lv=>?_,he,rfl,by simp[cnt,xO]⟩
 ·rw[vh,if_pos (by simp[Itm.kind])]
  exact e
 rw[Good]
 refine⟨?_,by rw[GoodL];trivial,fun h=>by omega⟩
 rw[yF,if_pos (by simp[xR,Itm.kind])]
 simp[wo,Itm.kind,Itm.n,Itm.bytes,Itm.items]
 cases hN:isNaN (so low n) with
 | false=>exact .inl rfl
 | true=>exact .inr (Classical.byContradiction fun h=>q3 ⟨hN,h⟩)
structure Read (d:Nat) (b:List UInt8) (c:Nat) (x:Itm) (k c':Nat):Prop where
 le:k≤b.length
 pos:0<k
 enc:zX x=b.take k
 cnt:c'=c+cnt x
 lim:c'≤256
 good:∀ lv,lv+d=8→Good x lv
 nums:fC x
structure ReadL (d:Nat) (b:List UInt8) (c:Nat) (l:List Itm) (n k c':Nat):Prop where
 le:k≤b.length
 enc:ym l=b.take k
 cnt:c'=c+xO l
 lim:c'≤256
 good:∀ lv,lv+d=8→GoodL l lv
 nums:py l
 len:l.length=n
theorem vL {α:Type}(b:List α) (k k':Nat):b.take (k+k')=b.take k++(b.drop k).take k':=List.take_add
theorem aY {d:Nat}{p:List UInt8→Nat→PR}(hp:∀ b c x k c',p b c=.ok x k c'→Read d b c x k c') :
  ∀ (n:Nat) (b:List UInt8) (c:Nat) (l:List Itm) (k c':Nat),c≤256→uf p n b c=.ok l k c'→ReadL d b c l n k c'
 | 0,b,c,l,k,c',hc,h=>by
  rw[uf]at h;injection h with h1 h2 h3
  subst h1 h2 h3
  exact⟨by omega,by simp[ym],by simp[xO],hc,fun lv _=>by rw[GoodL];trivial,by rw[py];trivial,rfl⟩
 | n+1,b,c,l,k,c',hc,h=>by
  rw[uf]at h
  split at h
  ·cases h
  rename_i x k1 c1 h1
  split at h
  ·cases h
  rename_i l1 k2 c2 h2
  injection h with e1 e2 e3
  subst e1 e2 e3;have r1:=hp _ _ _ _ _ h1;have r2:=aY hp n _ _ _ _ _ r1.lim h2;have hl:=r2.le;rw[List.length_drop]at hl;have:=r1.le
  refine⟨by omega, ?_, ?_,r2.lim,fun lv hlv=>?_, ?_,by rw[List.length_cons,r2.len]⟩
  ·rw[ym,r1.enc,r2.enc,vL]
  ·rw[xO,r2.cnt,r1.cnt];omega
  ·rw[GoodL];exact⟨r1.good lv hlv,r2.good lv hlv⟩
  rw[py];exact⟨r1.nums,r2.nums⟩
def Qp (last:Option (List UInt8)) (l:List Itm):Prop :=
 xj l=true∧∀ q,last=some q→∀ x t,l=x::t→Lib.compareBytes q (zX x)<0
theorem d9:∀ a b:List UInt8,¬ Lib.compareBytes a b=0→¬ Lib.compareBytes a b<0→Lib.compareBytes b a<0
 | [],[],h,_=>absurd rfl h
 | [],_::_,_,h=>absurd (by show(-1:Int)<0;decide) h
 | _::_,[],_,_=>by show(-1:Int)<0;decide
 | x::a,y::b,h,k=>by
  rw[Lib.compareBytes]at h k⊢
  split at h
  ·rename_i h1
   rw[if_pos h1]at k
   exact absurd (by decide) k
  rename_i h1
  rw[if_neg h1]at k
  split at h
  ·rename_i h2
   rw[if_pos h2];decide
  rename_i h2
  rw[if_neg h2]at k;rw[if_neg h2,if_neg h1]
  exact d9 a b h k
theorem Vy {last:Option (List UInt8)}{key:List UInt8}(h:ms last key=none):∀ q,last=some q→Lib.compareBytes q key<0:=by
 intro q hq
 subst hq;rw[ms]at h
 split at h
 ·cases h
 split at h
 ·cases h
 rename_i h1 h2
 exact d9 _ _ h1 h2
theorem aw {d:Nat}{p:List UInt8→Nat→PR}(hp:∀ b c x k c',p b c=.ok x k c'→Read d b c x k c') :
  ∀ (n:Nat) (b:List UInt8) (c:Nat) (last:Option (List UInt8)) (l:List Itm) (k c':Nat),c≤256→pQ p n b c last=.ok l k c'→ReadL d b c l (2*n) k c'∧Qp last l
 | 0,b,c,last,l,k,c',hc,h=>by
  rw[pQ]at h;injection h with h1 h2 h3
  subst h1 h2 h3
  exact⟨⟨by omega,by simp[ym],by simp[xO],hc,fun lv _=>by rw[GoodL];trivial,by rw[py];trivial,rfl⟩,rfl,fun _ _ _ _ h=>by cases h⟩
 | n+1,b,c,last,l,k,c',hc,h=>by
  rw[pQ]at h
  split at h
  ·cases h
  rename_i x k1 c1 h1
  split at h
  ·cases h
  rename_i hk
  split at h
  ·cases h
  rename_i y k2 c2 h2
  split at h
  ·cases h
  rename_i l1 k3 c3 h3
  injection h with e1 e2 e3
  subst e1 e2 e3;have r1:=hp _ _ _ _ _ h1;have r2:=hp _ _ _ _ _ h2;obtain⟨r3,a1,a2⟩:=aw hp n _ _ _ _ _ _ r2.lim h3;have te:=r2.le;have SO:=r3.le;rw[List.length_drop]at te SO;have:=r1.le
  refine⟨⟨by omega, ?_, ?_,r3.lim,fun lv hlv=>?_, ?_,by rw[List.length_cons,List.length_cons,r3.len];omega⟩, ?_,fun q hq x' t ht=>?_⟩
  ·rw[ym,ym,r1.enc,r2.enc,r3.enc,← List.append_assoc,← vL,← vL]
  ·rw[xO,xO,r3.cnt,r2.cnt,r1.cnt];omega
  ·rw[GoodL,GoodL];exact⟨r1.good lv hlv,r2.good lv hlv,r3.good lv hlv⟩
  ·rw[py,py];exact⟨r1.nums,r2.nums,r3.nums⟩
  ·cases l1 with
   | nil=>rfl
   | cons z l2 =>
   rw[xj,a1];have:=a2 _ rfl z l2 rfl;rw[← r1.enc]at this
   simp[this]
  injection ht with ht _
  subst ht;rw[r1.enc]
  exact Vy hk q hq
theorem dx {x:Itm}(h:∀ lv,yF x lv=true) (hi:x.items=[]) (h5:x.kind≠5):∀ lv,Good x lv:=fun lv =>
 Good.of (h lv) (by rw[hi,GoodL];trivial) (fun h=>absurd h h5)
theorem lz:∀ (d:Nat) (b:List UInt8) (c:Nat) (x:Itm) (k c':Nat),zd d b c=.ok x k c'→Read d b c x k c':=by
 intro d
 induction d using Nat.strongRecOn with
 | _ d ih =>
 intro b c x k c' h
 rw[zd.eq_def]at h
 simp only at h
 split at h
 ·cases h
 rename_i hc
 split at h
 ·cases h
 rename_i f n k1 hh
 have H:=tI hh;have xe:=H.low;have hf:=H.f_lt
 split at h
 ·rename_i h1
  injection h with e1 e2 e3
  subst e1 e2 e3;have hk:f/32=0∨f/32=1:=by omega
  refine⟨H.le,H.pos, ?_,by simp[cnt,xO],by omega,fun lv _=>dx (fun lv=>?_) rfl (by simp only[Itm.kind];omega) lv, ?_⟩
  ·rw[← H.enc (by omega),vh,if_neg (by simp only[Itm.kind];omega),if_neg (by simp only[Itm.kind];omega)]
   have e:tj (.mk (f/32:Nat) n [] [])=n:=by
    rw[tj,if_neg (by simp only[Itm.kind];omega),if_neg (by simp only[Itm.kind];omega),if_neg (by simp only[Itm.kind];omega)];rfl
   rw[e,show(Itm.mk (f/32:Nat) n [] []).kind.toNat=f/32 from rfl]
   simp[Itm.bytes,Itm.items,ym]
  ·rw[yF]
   rcases hk with hk | hk <;> simp[xR,wo,Itm.kind,Itm.bytes,Itm.items,hk]
  rw[fC];exact⟨H.n_lt,by rw[py];trivial⟩
 rename_i h1
 split at h
 ·rename_i h3
  split at h
  ·cases h
  rename_i h4
  split at h
  ·cases h
  rename_i h5
  injection h with e1 e2 e3
  subst e1 e2 e3;have hk:f/32=2∨f/32=3:=by omega
  have tH:=H.le;have z6:((b.drop k1).take n).length=n:=by rw[List.length_take,List.length_drop];omega
  have hn:=H.n_lt;have yL:=H.pos
  refine⟨by omega,by omega, ?_,by simp[cnt,xO],by omega,fun lv _=>dx (fun lv=>?_) rfl (by simp only[Itm.kind];omega) lv, ?_⟩
  ·rw[vL,← H.enc (by omega),vh,if_neg (by simp only[Itm.kind];omega),if_neg (by simp only[Itm.kind];omega)]
   have e:tj (.mk (f/32:Nat) 0 ((b.drop k1).take n) [])=n:=by
    rw[tj,if_pos (by simp only[Itm.kind];omega)]
    exact z6
   rw[e,show(Itm.mk (f/32:Nat) 0 ((b.drop k1).take n) []).kind.toNat=f/32 from rfl]
   simp[Itm.bytes,Itm.items,ym]
  ·rw[yF]
   rcases hk with hk | hk
   ·simp[xR,wo,Itm.kind,Itm.bytes,Itm.items,Itm.n,hk]
   have:Lib.validD ((b.drop k1).take n)=true:=by
    cases h:Lib.validD ((b.drop k1).take n) with
    | true=>rfl
    | false=>exact absurd ⟨hk,h⟩ h5
   simp[xR,wo,Itm.kind,Itm.bytes,Itm.items,Itm.n,hk,this]
  rw[fC];exact⟨by omega,by rw[py];trivial⟩
 rename_i h3
 split at h
 ·rename_i h7
  split at h
  ·cases h
  rename_i y hs
  injection h with e1 e2 e3
  subst e1 e2 e3;have hu:u8 f=u8 (7*32+f%32):=by rw[show 7*32+f%32=f by omega]
  rcases Nat.lt_or_ge (f%32) 24 with hl | hl
  ·obtain⟨s1,s2,s3⟩:=H.small hl;obtain⟨g1,g2,g3,g4,g5⟩:=sD (low:=f%32) (t:=[]) (by omega) (fun _=>⟨s1,rfl⟩) (fun h=>by omega) hs
   refine⟨H.le,H.pos,by rw[s3,g1,hu],by rw[g5],by omega,fun lv _=>g2 lv, ?_⟩
   cases y
   rw[fC]
   simp only[Itm.items]at g4
   subst g4
   exact⟨g3,by rw[py];trivial⟩
  obtain⟨s1,t,s2,s3,s4⟩:=H.wide hl;obtain⟨g1,g2,g3,g4,g5⟩:=sD (low:=f%32) (t:=t) (by omega) (fun h=>by omega) (fun _=>⟨s2,s4⟩) hs
  refine⟨H.le,H.pos,by rw[s3,g1,hu],by rw[g5],by omega,fun lv _=>g2 lv, ?_⟩
  cases y
  rw[fC]
  simp only[Itm.items]at g4
  subst g4
  exact⟨g3,by rw[py];trivial⟩
 rename_i h7
 cases d with
 | zero=>cases h
 | succ d =>
 simp only at h
 have hd:d<d+1:=by omega
 have yL:=H.pos
 split at h
 ·rename_i h6
  split at h
  ·cases h
  rename_i y k2 c2 hy
  injection h with e1 e2 e3
  subst e1 e2 e3;have r:=ih d hd _ _ _ _ _ hy;have tH:=H.le;have hl:=r.le;rw[List.length_drop]at hl
  refine⟨by omega,by omega, ?_, ?_,r.lim,fun lv hlv=>Good.of ?_ ?_ (fun h=>by simp only[Itm.kind]at h;omega), ?_⟩
  ·rw[vL,← H.enc (by omega),vh,if_neg (by simp only[Itm.kind];omega),if_neg (by simp only[Itm.kind];omega),h6];have e:tj (.mk 6 n [] [y])=n:=by simp[tj,Itm.kind,Itm.n]
   rw[e,← r.enc]
   simp[Itm.kind,Itm.bytes,Itm.items,ym]
  ·rw[cnt,xO,xO,r.cnt];omega
  ·rw[yF,if_neg (by simp[xR,Itm.kind])]
   simp[vV,Itm.kind,Itm.bytes,Itm.items,Itm.n]
   omega
  ·simp only[Itm.items]
   rw[GoodL,GoodL]
   exact⟨r.good _ (by omega),trivial⟩
  rw[fC,py,py]
  exact⟨H.n_lt,r.nums,trivial⟩
 rename_i h6
 split at h
 ·rename_i h5
  split at h
  ·cases h
  rename_i l k2 c2 hy
  injection h with e1 e2 e3
  subst e1 e2 e3;obtain⟨r,asc,_⟩:=aw (ih d hd) _ _ _ _ _ _ _ (by omega) hy;have tH:=H.le;have hl:=r.le;have z6:=r.len;rw[List.length_drop]at hl
  refine⟨by omega,by omega, ?_, ?_,r.lim,fun lv hlv=>Good.of ?_ ?_ (fun _=>asc), ?_⟩
  ·rw[vL,← H.enc (by omega),vh,if_neg (by simp only[Itm.kind];omega),if_neg (by simp only[Itm.kind];omega),h5];have e:tj (.mk 5 0 [] l)=n:=by simp[tj,Itm.kind,Itm.n,Itm.items,z6]
   rw[e,← r.enc]
   simp[Itm.kind,Itm.bytes,Itm.items]
  ·rw[cnt,r.cnt];omega
  ·rw[yF,if_neg (by simp[xR,Itm.kind])]
   simp[vV,Itm.kind,Itm.bytes,Itm.items,Itm.n,z6]
   omega
  ·exact r.good _ (by omega)
  rw[fC]
  exact⟨by omega,r.nums⟩
 rename_i h5
 split at h
 ·cases h
 rename_i l k2 c2 hy
 injection h with e1 e2 e3
 subst e1 e2 e3;have h4:f/32=4:=by omega
 have r:=aY (ih d hd) _ _ _ _ _ _ (by omega) hy;have tH:=H.le;have hl:=r.le;have z6:=r.len;rw[List.length_drop]at hl
 refine⟨by omega,by omega, ?_, ?_,r.lim,fun lv hlv=>Good.of ?_ ?_ (fun h=>by simp only[Itm.kind]at h;omega), ?_⟩
 ·rw[vL,← H.enc (by omega),vh,if_neg (by simp only[Itm.kind];omega),if_neg (by simp only[Itm.kind];omega),h4];have e:tj (.mk 4 0 [] l)=n:=by simp[tj,Itm.kind,Itm.n,Itm.items,z6]
  rw[e,← r.enc]
  simp[Itm.kind,Itm.bytes,Itm.items]
 ·rw[cnt,r.cnt];omega
 ·rw[yF,if_neg (by simp[xR,Itm.kind])]
  simp[vV,Itm.kind,Itm.bytes,Itm.items,Itm.n,z6]
  omega
 ·exact r.good _ (by omega)
 rw[fC]
 exact⟨by omega,r.nums⟩
def XU (p:List UInt8→Nat→PR):Prop:=∀ b c x k c',p b c=.ok x k c'→c<c'∧c'≤256
theorem Qt (x:Itm):0<cnt x:=by rw[ju];omega
theorem rD (d:Nat):XU (zd d):=fun b c x k c' h=>by
 have r:=lz d b c x k c' h;have:=Qt x
 exact⟨by rw[r.cnt];omega,r.lim⟩
theorem Xd {p:List UInt8→Nat→PR}(hp:XU p):∀ (m n:Nat) (b:List UInt8) (c:Nat) (last:Option (List UInt8)),256<c+m→256<c+n→c≤256→pQ p m b c last=pQ p n b c last
 | 0,n,b,c,last,h1,_,h3=>by omega
 | m+1,0,b,c,last,_,h2,h3=>by omega
 | m+1,n+1,b,c,last,h1,h2,h3=>by
  rw[pQ,pQ]
  cases h:p b c with
  | err e=>rfl
  | ok x k c1 =>
  have a1:=hp _ _ _ _ _ h
  simp only
  cases ms last (b.take k) with
  | some e=>rfl
  | none =>
  simp only
  cases h':p (b.drop k) c1 with
  | err e=>rfl
  | ok y k2 c2 =>
  have a2:=hp _ _ _ _ _ h'
  simp only
  rw[Xd hp m n (b.drop (k+k2)) c2 (some (b.take k)) (by omega) (by omega) a2.2]
def rH (b:List UInt8):PR:=zd 8 (b.take 4096) 0
theorem aE {b:List UInt8}{x:Itm}{k c:Nat}(h:rH b=.ok x k c):k≤b.length∧k≤4096∧0<k∧zX x=b.take k∧Good x 0∧fC x∧cnt x≤256:=by
 have r:=lz _ _ _ _ _ _ h;have hl:=r.le;rw[List.length_take]at hl;have h1:=r.cnt;have h2:=r.lim
 refine⟨by omega,by omega,r.pos, ?_,r.good 0 rfl,r.nums,by omega⟩
 rw[r.enc,List.take_take,show min k 4096=k by omega]
def ui (b:List UInt8):Except Nat Itm :=
 if 4096<b.length then .error 8 else match rH b with
 | .err e=>.error e
 | .ok x k _=>if k<b.length then .error 9 else .ok x
structure Ext where
 label:Int
 has:Bool
 val:List UInt8
def MQ (x:Itm) (lim:Nat):Option Int :=
 if x.kind=0∧x.n≤lim then some (x.n:Int) else if x.kind=1∧x.n<lim then some (-1-(x.n:Int)) else none
def rJ (n:Int):List UInt8:=if n<0 then zj 1 (-1-n).toNat else zj 0 n.toNat
def vX (b:List UInt8):List UInt8:=zj 2 b.length++b
def dA:Nat→List Ext→List UInt8→Except Nat (List Ext)
 | 0,out,_=>.ok out
 | n+1,out,b =>
 if b.length=0 then .ok out
 else match rH b with
  | .err e=>.error e
  | .ok x k _ =>
  if x.kind=2 then
   (match out.getLast? with
   | none=>.error 4
   | some l =>
   if l.has then .error 4 else if 600<x.bytes.length then .error 8
   else dA n (out.dropLast++[{ l with has:=true,val:=x.bytes }]) (b.drop k))
  else match MQ x 65535 with
   | none=>.error 4
   | some v=>if out.length=4 then .error 8 else dA n (out++[{ label:=v,has:=false,val:=[] }]) (b.drop k)
def OF (b:List UInt8):Except Nat (List Ext):=dA (b.length+1) [] b
def U8 (c:UInt8):Bool:=decide (c.toNat<24)||decide (32≤c.toNat)&&decide (c.toNat<56)
def WH (b:List UInt8):Except Nat (List UInt8×Nat) :=
 match b with
 | []=>.error 2
 | x::t =>
 if U8 x then .ok ([x],1)
 else if x.toNat<64∨88<x.toNat then .error 4
 else if 7<x.toNat-64 then .error 8
 else if b.length<1+(x.toNat-64) then .error 2
 else if x.toNat-64=1∧U8 (b.getD 1 0) then .error 4
 else .ok (t.take (x.toNat-64),1+(x.toNat-64))
def QM:List Int→Bool
 | []=>false
 | x::l=>l.contains x||QM l
structure First where
 method:Int
 suites:List Int
 gx:List UInt8
 conn:List UInt8
 ext:List Ext
def QL:List Itm→Option (List Int)
 | []=>some []
 | x::l=>match MQ x 65535 with
  | none=>none
  | some v=>if v<0 then none else match QL l with
   | none=>none
   | some t=>some (v::t)
def RO (x:Itm):Except Nat (List Int) :=
 if x.kind=0 then(if x.n≤65535 then .ok [(x.n:Int)] else .error 4)
 else if x.kind≠4∨x.items.length<2 then .error 4
 else match QL x.items with
  | none=>.error 4
  | some l=>if QM l then .error 7 else if 8<l.length then .error 8 else .ok l
theorem ww (n:Int) (lv:Nat):Good (zh n) lv:=by
 rw[zh]
 split <;> (rw[Good];refine⟨?_,by rw[GoodL];trivial,by intro h;omega⟩;simp[yF,xR,wo,vV,Itm.kind,Itm.bytes,Itm.items,Itm.n])
theorem wW (n:Int):zX (zh n)=rJ n:=by
 rw[XY (ww n 0) (by rw[zh];split <;> simp[Itm.kind]),zh,rJ]
 split <;> rfl
section
variable {w w' w'':World} {H H' H'':Snap} {g:Nat}
theorem GrowsBut.refl (hH:Holds w H) (g:Nat):GrowsBut w H w H g:=⟨vN w _,Snap.le.refl _,hH,fun _ _ h=>.inl h⟩
theorem GrowsBut.trans (h:GrowsBut w H w' H' g) (k:GrowsBut w' H' w'' H'' g):GrowsBut w H w'' H'' g :=
 ⟨sB h.grown k.grown (.inl rfl),h.le.trans k.le,k.holds,fun b o hb=>by
  rcases k.fresh b o hb with h1 | h1
  ·exact h.fresh b o h1
  exact .inr (Nat.le_trans h.grown.size h1)⟩
theorem Grows.but (h:Grows w H w' H') (g:Nat):GrowsBut w H w' H' g:=⟨uy h.below _,h.le,h.holds,h.fresh⟩
theorem GrowsBut.hid (h:GrowsBut w H w' H' g) {k:Nat}(hk:H k=.none) (hl:k<w.heap.size):H' k=.none:=by
 cases hH:H' k with
 | none=>rfl
 | some o =>
 rcases h.fresh k o hH with hx | hx
 ·rw[hk]at hx;cases hx
 omega
structure DeckIn (w:World) (g:Nat) (H:Snap):Prop where
 deck:Deck w g H
 holds:Holds w H
 apart:H g=.none
structure Dealt (w:World) (H:Snap) (w':World) (H':Snap) (g:Nat):Prop where
 grows:GrowsBut w H w' H' g
 deck:DeckIn w' g H'
theorem Dealt.refl (h:DeckIn w g H):Dealt w H w H g:=⟨GrowsBut.refl h.holds g,h⟩
theorem Dealt.trans (h:Dealt w H w' H' g) (k:Dealt w' H' w'' H'' g):Dealt w H w'' H'' g:=⟨h.grows.trans k.grows,k.deck⟩
theorem DeckIn.grows (h:DeckIn w g H) (k:Grows w H w' H'):Dealt w H w' H' g :=
 ⟨k.but g,⟨(h.deck.below k.below).mono k.le,k.holds,k.none h.apart h.deck.lt⟩⟩
theorem Dealt.grown (h:Dealt w H w' H' g) (k:Grows w' H' w'' H''):Dealt w H w'' H'' g:=h.trans (h.deck.grows k)
theorem Dealt.alloc (h:Dealt w H w' H' g) (o:Obj):Dealt w H (w'.alloc o) H' g:=h.grown ((Grows.refl h.deck.holds).alloc o)
theorem DeckIn.alloc (h:DeckIn w g H) (o:Obj):DeckIn (w.alloc o) g H:=(h.grows ((Grows.refl h.holds).alloc o)).deck
theorem Dealt.le (h:Dealt w H w' H' g):H.le H':=h.grows.le
theorem Dealt.holds (h:Dealt w H w' H' g):Holds w' H':=h.deck.holds
theorem Dealt.size (h:Dealt w H w' H' g):w.heap.size≤w'.heap.size:=h.grows.grown.size
theorem Dealt.hid (h:Dealt w H w' H' g) {k:Nat}(hk:H k=.none) (hl:k<w.heap.size):H' k=.none:=h.grows.hid hk hl
theorem Dealt.grownRow {row:Option Nat}(h:Dealt w H w' H' g) (h0:∀ k,row=some k→H' k=.none) (hw:∀ k,row=some k→w.heap.size≤k) (yy:g<w.heap.size) (hg:w'.grownBy w'' row):Dealt w H w'' H' g:=by
 have hd:=h.deck;have xq:row≠some g:=fun e=>by have:=hw g e;omega
 refine⟨⟨?_,h.le,h.holds.grown hg h0,h.grows.fresh⟩, ?_,h.holds.grown hg h0,hd.apart⟩
 ·exact⟨hg.os.trans h.grows.grown.os,hg.tape.trans h.grows.grown.tape,hg.output.trans h.grows.grown.output,Nat.le_trans h.size hg.size,fun i hi mq =>
   (hg.block i (Nat.lt_of_lt_of_le hi h.size) (fun e=>by have:=hw i e.symm;omega)).trans (h.grows.grown.block i hi mq)⟩
 obtain⟨A,c,l,k,h1,h2,h3⟩:=hd.deck
 exact⟨A,c,l,k,h1.grown hg xq,h2,h3⟩
theorem Blk.dealt {k:Nat}{t:TypeId}{cs:Array Value}(h:Blk w k t cs) (hd:Dealt w H w' H' g) (hk:k≠g):Blk w' k t cs :=
 h.grown hd.grows.grown (by intro e;injection e with e;exact hk e.symm)
theorem OwnB.dealt {base:Nat}{v:Value}{l:List UInt8}(h:OwnB w base v l) (hd:Dealt w H w' H' g) (hb:g<base):OwnB w' base v l:=by
 refine h.kept hd.grows.grown ?_
 cases hv:v.ownBlock with
 | none=>exact .inl rfl
 | some k=>exact .inr (fun e=>by injection e with e;have:=h.lt k hv;omega)
end
theorem vY {H:Snap}{g:Nat}(w:World) (hD:DeckIn w g H) (n:Int) (hn:0<n) (oQ:n≤1099511627776) :
  Calls Tryz.prog 9 #[.pointer (some ⟨g,0,none⟩),.int .i64 n] w fun e w'=>∃ r:Nat,e=.returned (.int .i64 (r:Int))∧(r:Int)<n∧Dealt w H w' H g:=by
 refine(RE w hD.deck hD.holds hD.apart n hn oQ).mono ?_
 rintro e w' ⟨r,rfl,h0,h1,h2,h3⟩
 obtain⟨k,rfl⟩:=Int.eq_ofNat_of_zero_le h0;have hH:=hD.holds.grown h3 (by rintro q ⟨⟩;exact hD.apart)
 exact⟨k,rfl,h1,⟨h3,Snap.le.refl _,hH,fun _ _ h=>.inl h⟩,h2,hH,hD.apart⟩
theorem TN {H:Snap}{g:Nat}(w:World) (hD:DeckIn w g H) (n:Int) (hn:0≤n) (oQ:n≤1048576) :
  Calls Tryz.prog 13 #[.pointer (some ⟨g,0,none⟩),.int .i64 n] w fun e w' =>
   ∃ A c l,e=.returned (.slice A l.length c)∧(l.length:Int)≤n∧∃ H',IsBytes H' A c l∧Dealt w H w' H' g:=by
 have NX:=Hh (vY w hD (n+1) (by omega) (by omega));have K0:IntKind.i64.wrap (n+1)=n+1:=IntWalk.i64_in _ (by omega);have yS:=hD.deck.lt;have HN:=Hh (And.intro hn oQ);have HD:=Hh hD;clear hn oQ hD;go_enter Tryz.func13,Tryz.ntmps13
 go_wp2_with fail
 refine NX.out.mono ?_
 rintro e w1 ⟨r,rfl,hr,Nr⟩
 have yp:=OwnB.nil w1 w.heap.size;go_wp2_with fail
 go_loopw [5,6] (fun v5 v6 wr=>∃ (k:Nat) (VA:Option Addr) (vc vn:Nat) (l:List UInt8),v6=.int .i64 (k:Int)∧v5=.slice VA vn vc∧OwnB wr w.heap.size (.slice VA vn vc) l∧vn=l.length∧(l.length:Int)+k≤n∧Dealt w H wr H g∧(∀ q,(Value.slice VA vn vc).ownBlock=some q→H q=none)) (fun _ v6 _=>(intOf v6).toNat)
 case atStart=>exact⟨r,_,_,_,_,rfl,rfl,yp,rfl,by simp;omega,Nr,by intro q hq;simp[Value.ownBlock]at hq⟩
 case round =>
 obtain⟨k,VA,vc,vn,l,rfl,rfl,vf,mg,VD,qD,lY⟩:=hrel;have HV:=Hh mg;have Rz:=Hh VD;clear mg VD
 by_cases yy:(0:Int)<(k:Int)
 ·have NX:=Hh (vY wr qD.deck 256 (by omega) (by omega));go_wp2_with fail
  refine NX.out.mono ?_
  rintro e w2 ⟨q,rfl,hq,us⟩
  have hd:=qD.trans us;have tl:=vf.dealt us yS;have K1:IntKind.u8.wrap (q:Int)=(q:Int):=IntWalk.u8_in _ (by omega);have qC:=tl.alloc (.cells #[.int .u8 (q:Int)] 5);have wU:=hd.alloc (.cells #[.int .u8 (q:Int)] 5)
  have HC:Hid ((#[.int .u8 (q:Int)]:Array Value).toList=[u8 q].map zg):=by
   simp only[Hid,List.map_cons,List.map_nil,vk]
   congr 2
   omega
  have pX:(-9223372036854775808:Int)≤(k:Int)-1∧(k:Int)-1≤9223372036854775807:=by have:=Rz.out;have:=HN.out;omega
  clear hq NX qD vf us tl hd;go_wp2_with (at_builtin;refine zf ?_)
  unfold zU
  obtain rfl:=HV.out
  refine zv rfl (.tmp 15) (.tmp 19) rfl w.heap.size (.slice VA l.length vc) _ rfl qC _ 1 _ [u8 q] rfl rfl (Src.new _ _ _ _ rfl _ HC.out) (by have:=Rz.out;have:=HN.out;simp;omega) wU.size fun v' w7 wY hg7 hat7=>?_
  obtain⟨VA',vc',rfl,_⟩:=wY.form;have xp:=wU.grownRow lY (fun q hq=>(qC.lt q hq).1) yS hg7
  have fN:∀ q',(Value.slice VA' (l++[u8 q]).length vc').ownBlock=some q'→H q'=none:=fun q' cH=>by
   rcases hat7 with h | ⟨g',h1,h2⟩
   ·exact lY q' (by rw[← h,cH])
   rw[cH]at h1;injection h1 with h1
   subst h1
   exact wU.holds.none_of_ge h2
  have Xw:(l++[u8 q]).length=l.length+1:=by simp
  rw[Xw]at wY fN;rw[Xw];clear Xw;have kM:IntKind.i64.wrap ((k:Int)-1)=(k:Int)-1:=IntWalk.i64_in _ pX;clear qC hg7 hat7 wU pX;go_wp2_with fail
  go_roundw
  case rel=>exact⟨k-1,VA',vc',_,_,by rw[show((k-1:Nat):Int)=(k:Int)-1 by omega],rfl,wY,by simp,by have:=Rz.out;simp;omega,xp,fN⟩
  case measure=>simp[intOf];omega
 go_wp2_with fail
 obtain rfl:=HV.out;obtain⟨H',df,Ns,pU,Sx,cF⟩:=vf.snap qD.holds (fun q hq=>lY q (by cases VA <;> simp_all [Value.ownBlock]));have hG:Grows wr H wr H'→True:=fun _=>trivial
 go_ret
 refine⟨VA,vc,l,rfl,by have:=Rz.out;omega,H',cF,⟨⟨qD.grows.grown,df,Ns,fun b o hb=>?_⟩,qD.deck.deck.mono df,Ns, ?_⟩⟩
 ·rcases pU b o hb with h | h
  ·exact .inl h
  exact .inr (vf.lt b (by cases VA <;> simp_all [Value.ownBlock])).1
 cases hH:H' g with
 | none=>rfl
 | some o =>
 rcases pU g o hH with h | h
 ·rw[HD.out.apart]at h;cases h
 have:=(vf.lt g (by cases VA <;> simp_all [Value.ownBlock])).1
 omega
theorem Blk.pick {w:World}{g:Nat}{t:TypeId}{cs:Array Value}(h:Blk w g t cs) (P:Value→Bool) (vy:cs.all P=true) (k:Nat) (hk:k<cs.size):∃ v,w.cell? ⟨g,k,none⟩=some v∧P v=true :=
 ⟨cs[k],h.cell k (Array.getElem?_eq_getElem hk),by rw[Array.all_eq_true]at vy;exact vy k hk⟩
end Go.Proofs.YtjpcnhncoidliaaGreatDoor
namespace Go.Proofs.YtjpcnhncoidliaaGreatDoor
open Go.RowKit Go.Shelf
def OY:Go.Shelf.Ren:=⟨fun | 196=>65 | 259=>77 | n=>n,
 fun | 0=>0 | 3=>3 | 4=>4 | 5=>5 | 9=>9 | 12=>12 | 46=>84 | 53=>75 | 119=>115 | 138=>117 | 139=>118 | n=>n,
 fun | 3=>0 | 4=>1 | n=>n⟩
theorem RQ:Lays.n196 Tryz.prog OY where
 mixed:=by kernel_rfl
 f196:=Tryz.func65.trans (congrArg some (by kernel_rfl))
 f259:=Tryz.func77.trans (congrArg some (by kernel_rfl))
 t0:=Tryz.underlying0
 a0:=Tryz.isAgg0
 z0:=Tryz.sizeOf0
 v0:=Tryz.zeroValue0
 t3:=Tryz.underlying3
 a3:=Tryz.isAgg3
 z3:=Tryz.sizeOf3
 v3:=Tryz.zeroValue3
 t4:=Tryz.underlying4
 a4:=Tryz.isAgg4
 z4:=Tryz.sizeOf4
 v4:=Tryz.zeroValue4
 t5:=Tryz.underlying5
 a5:=Tryz.isAgg5
 z5:=Tryz.sizeOf5
 v5:=Tryz.zeroValue5
 t9:=Tryz.underlying9
 a9:=Tryz.isAgg9
 z9:=Tryz.sizeOf9
 v9:=Tryz.zeroValue9
 t12:=Tryz.underlying12
 a12:=Tryz.isAgg12
 z12:=Tryz.sizeOf12
 v12:=Tryz.zeroValue12
 t46:=Tryz.underlying84
 a46:=Tryz.isAgg84
 z46:=Tryz.sizeOf84
 v46:=Tryz.zeroValue84
 t53:=Tryz.underlying75
 a53:=Tryz.isAgg75
 z53:=Tryz.sizeOf75
 v53:=Tryz.zeroValue75
 t119:=Tryz.underlying115
 a119:=Tryz.isAgg115
 z119:=Tryz.sizeOf115
 t138:=Tryz.underlying117
 a138:=Tryz.isAgg117
 z138:=Tryz.sizeOf117
 v138:=Tryz.zeroValue117
 t139:=Tryz.underlying118
 a139:=Tryz.isAgg118
 z139:=Tryz.sizeOf118
 v139:=Tryz.zeroValue118
 g3:=by kernel_rfl
 g4:=by kernel_rfl
theorem utf8_ValidString {H:Snap}(hT:Tabs H) (w:World) (hH:Holds w H) (s:ByteArray) (hs:s.size≤9223372036854775807) :
  Calls Tryz.prog 65 #[.string s] w fun e w'=>e=.returned (.bool (Lib.validD s.data.toList))∧Below w.heap.size w w' :=
 Any.utf8_ValidString RQ s w hs (hT w hH)
end Go.Proofs.YtjpcnhncoidliaaGreatDoor
namespace Go.Proofs.YtjpcnhncoidliaaGreatDoor
open Go.RowKit
theorem OwnI.lit {w:World}{H:Snap}{l:List Itm}{cs:List Value}(h:ItemsC H cs l) (base:Nat) (hb:base≤w.heap.size) (hm:l.length≤4096) :
  OwnI (w.alloc (.cells cs.toArray 78)) base (.slice (some ⟨w.heap.size,0,none⟩) l.length l.length) H l:=by
 refine⟨cs,h,h.len,.inr ⟨w.heap.size,l.length,cs.toArray,rfl,hb,heap_alloc_new w _,Nat.le_refl _,by simp only[maxLen];omega, ?_, ?_⟩⟩
 ·simpa using h.len
 rw[← h.len];simp
theorem Dealt.gb {w w' w'':World}{H H':Snap}{g k:Nat}(h:Dealt w H w' H' g) (h0:H' k=none) (hw:w.heap.size≤k) (yy:g<w.heap.size) (hg:w'.grownBy w'' (some k)):Dealt w H w'' H' g:=h.grownRow (row:=some k) (by rintro q ⟨⟩;exact h0) (by rintro q ⟨⟩;exact hw) yy hg
end Go.Proofs.YtjpcnhncoidliaaGreatDoor
