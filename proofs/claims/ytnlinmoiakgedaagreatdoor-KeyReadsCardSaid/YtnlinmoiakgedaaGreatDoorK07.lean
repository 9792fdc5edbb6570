/- squeezed. Walks: cbor.add. Walks: cbor.plain -/
import Derived.Test.YtnlinmoiakgedaaGreatDoorK06
import Derived.Test.YtnlinmoiakgedaaGreatDoorK05
import Derived.Shelf.Unicode.DecodeSlow
set_option linter.unusedVariables false
set_option linter.unusedSimpArgs false
set_option maxRecDepth 100000
set_option maxHeartbeats 6400000
namespace Go.Proofs.YtnlinmoiakgedaaGreatDoor
open Go.RowKit
theorem js (n:Int) (w:World) (h0:0≤n) (h1:n<18446744073709551616) :
  Calls Tryz.prog 75 #[.int .u64 n] w fun e w'=>∃ r,e=.returned r∧Fresh w (zF n.toNat) r w':=by
 obtain⟨m,rfl⟩:=Int.eq_ofNat_of_zero_le h0;rw[Int.toNat_natCast]
 exact te m (by omega) w
def U64 (n:Int):Prop:=0≤n∧n<18446744073709551616
def O9 (w:World) (base:Nat) (v:Value) (l:List UInt8) (e:Ending) (w':World):Prop :=
 ∃ r,e=.returned r∧OwnB w' base r l∧w.grownBy w' v.ownBlock∧At0 w v.ownBlock r.ownBlock
def pT (x:Itm):Prop:=∀ (H:Snap) (k n:Int) (ba:Option Addr) (bl bc:Nat) (ia:Option Addr) (il ic:Nat) (w:World) (base:Nat) (v:Value) (l:List UInt8),
 Kinds x→ItemA H k n ba bl bc ia il ic x→Holds w H→OwnB w base v l→base≤w.heap.size→(∀ g,v.ownBlock=some g→H g=none)→l.length+(zd x).length≤1099511627776→
 Calls Tryz.prog 58 #[v,.agg #[.int .i64 k,.int .u64 n,.slice ba bl bc,.slice ia il ic]] w (O9 w base v (l++zd x))
theorem Zt (x:Itm) (h8:x.kind=8):pT x:=by
 intro H k n ba bl bc ia il ic w base v l hk hx hH vq hbase hv zK
 obtain⟨rfl,rfl,rfl,rfl,hx⟩:=hx;have tv:=hx.bounds;have E:Hid (zd x=zF x.n):=by rw[Hid,xf,if_pos h8]
 rw[E.out]at zK;have HL:=Hh zK;have HB:=Hh tv;have HV:=Hh hv;clear zK tv hv;go_enter Tryz.func58,Tryz.ntmps58
 go_wp2_with (first
  | (go_at_call 75;refine(js _ _ (by omega) (by have:=HB.out;omega)).mono ?_;rintro e w1 ⟨r,rfl,hf⟩;obtain⟨A,c,rfl,_,_,Uc⟩:=hf.own.form)
  | (at_builtin;refine zO rfl (.tmp 11) (.tmp 14) rfl base v l rfl ((vq.alloc _).below hf.2) A _ c (zF x.n) rfl (by simp) (by simpa using Uc) HL.out (by have:=hf.2.size;simp at this;omega) ?_;intro v' w2 hown' hg nz))
 go_ret
 refine⟨v',rfl,by rw[E.out];exact hown', ?_, ?_⟩
 ·exact yV (vk ((zi w _).trans (hf.2.mono (by simp))) _) hg (.inl rfl)
 ·exact At0.step (.inl rfl) (by have:=hf.2.size;simp at this;omega) nz
theorem cM (x:Itm) (h7:x.kind=7) (ta:24≤x.n):pT x:=by
 intro H k n ba bl bc ia il ic w base v l hk hx hH vq hbase hv zK
 obtain⟨rfl,rfl,rfl,rfl,hx⟩:=hx;have tv:=hx.bounds;have E:Hid (zd x=[u8 248,u8 x.n]):=by rw[Hid,xf,if_neg (by omega),if_pos ⟨h7,ta⟩]
 rw[E.out]at zK;have HL:=Hh zK;have HB:=Hh tv;have HV:=Hh hv;have KR:(24:Int)≤(x.n:Int):=by omega
 clear zK tv hv ta;go_enter Tryz.func58,Tryz.ntmps58
 go_wp2_with (at_builtin;refine zO rfl (.tmp 25) (.tmp 29) rfl base v l rfl ((vq.alloc _).alloc _) _ 2 2 [u8 248,u8 x.n] rfl rfl ?hs HL.out (by simp;omega) ?_)
 case hs=>exact Src.new _ _ _ _ (by simp) _ (by simp[sw])
 intro v' w2 hown' hg nz
 go_wp2
 go_ret
 refine⟨v',rfl,by rw[E.out];exact hown', ?_, ?_⟩
 ·exact yV (vk ((zi w _).alloc (by simp) _) _) hg (.inl rfl)
 ·exact At0.step (.inl rfl) (by simp;omega) nz
theorem kV {w:World}{g:Nat}{cs:Array Value}{e:TypeId}(h:w.heap[g]? = some (.cells cs e (0,0))) (i:Nat):w.cell? ⟨g,i,none⟩=cs[i]? :=cell_of_row w g i cs e (0,0) h
theorem Xx {w w1 w2 w3:World}{base:Nat}{v:Value}{l:List UInt8}{cs:Array Value}{e:TypeId}(vq:OwnB w base v l)
  (h1:Below (w.alloc (.cells cs e)).heap.size (w.alloc (.cells cs e)) w1) (h2:Below w1.heap.size w1 w2) (h3:w2.grownBy w3 v.ownBlock) :
  w3.heap[w.heap.size]? = some (.cells cs e (0,0))∧w.heap.size+1≤w3.heap.size:=by
 have s1:=h1.size;have s2:=h2.size;have s3:=h3.size
 simp at s1
 refine⟨?_,by omega⟩
 rw[h3.block _ (by omega) (fun h=>by have:=(vq.lt _ h.symm).2;omega),h2.block _ (by omega),h1.block _ (by simp)]
 exact heap_alloc_new w _
theorem Xf (x:Itm) (h8:¬ x.kind=8) (h7:¬ (x.kind=7∧24≤x.n)) (ih:∀ y:Itm,cnt y<cnt x→pT y):pT x:=by
 intro H k n ba bl bc ia il ic w base v l hk hx hH vq hbase hv zK
 obtain⟨rfl,rfl,rfl,rfl,hx⟩:=hx;have tv:=hx.bounds;have E:Hid (zd x=zm x.kind.toNat (numP x)++x.bytes++zB x.items):=by rw[Hid,xf,if_neg h8,if_neg h7]
 rw[E.out]at zK;have eW:=hk.kind;have KH:x.kind<8:=by omega
 have b8:(x.kind==8)=false:=by simp[h8]
 have Sn:(numP x:Int)<18446744073709551616:=by
  unfold numP
  repeat' split
  all_goals omega
 have HN:U64 (numP x):=⟨by omega,Sn⟩
 clear Sn;have Rz:x.kind=7→(x.n:Int)<24:=fun h=>by have:¬ 24≤x.n:=fun h'=>h7 ⟨h,h'⟩;omega
 have HL:=Hh zK;have HB:=Hh tv;have HV:=Hh hv;clear zK tv hv h8 h7
 have Qc:((x.kind==7)=true∧(x.n:Int)<24)∨(x.kind==7)=false:=by
  by_cases hk7:x.kind=7
  ·exact .inl ⟨by simp[hk7],Rz hk7⟩
  ·exact .inr (by simp[hk7])
 clear Rz;have G:Hid (w.grownBy w none):=yU w none
 rcases Qc with ⟨b7,hn⟩ | b7
 all_goals
  go_enter Tryz.func58,Tryz.ntmps58
  go_wp2_with fail
  refine(jt hx.arg _ (by omega) (by omega)).mono ?_
  rintro e w1 ⟨rfl,hm⟩
  go_wp2_with fail
  refine(sQ _ _ _ (by omega) (by omega) (by omega) HN.2).mono ?_
  rintro e w2 ⟨r,rfl,hf⟩
  obtain⟨A,c,rfl,_,_,Uc⟩:=hf.own.form;have xE:w.heap.size+1≤w1.heap.size:=by have h1:=hm.size;simp at h1;omega
  have vO:w.heap.size+1≤w2.heap.size:=by have h1:=hm.size;have h2:=hf.2.size;simp at h1;omega
  go_wp2_with (at_builtin;refine ye ?_)
  refine zO rfl (.tmp 31) (.tmp 36) rfl base v l rfl (((vq.alloc _).below hm).below hf.2) A _ c (zm x.kind.toNat (numP x)) rfl (by simp) (by simpa using Uc) (by have:=HL.out;simp at this⊢;omega) (by omega) ?_
  intro v3 w3 hown3 hg3 hat3
  obtain⟨Wf,XG⟩:=Xx vq hm hf.2 hg3;have ZZ:=kV Wf 2;have Na:=kV Wf 3
  simp at ZZ Na
  have VW:Holds w3 H:=(((hH.alloc _).below hm (Nat.le_refl _)).below hf.2 (Nat.le_refl _)).grown hg3 HV.out;have R2:=Src.of_row hx.bytes.row VW;have yO:w.grownBy w3 v.ownBlock:=yV (vk (((zi w _).trans (hm.mono (by simp))).trans (hf.2.mono (by omega))) _) hg3 (.inl rfl);go_wp2_with (at_builtin;refine ye ?_)
  refine zO rfl (.tmp 38) (.tmp 40) rfl base v3 _ rfl hown3 ba _ bc x.bytes rfl rfl R2 (by have:=HL.out;simp at this⊢;omega) (by omega) ?_
  intro v4 w4 hown4 hg4 hat4
  have Jm:Holds w4 H:=VW.grown hg4 (fun g hg=>by
   rcases hat3 with h | ⟨g',h,hg'⟩
   ·exact HV.out g (h ▸ hg)
   ·rw[h]at hg;injection hg with hg;subst hg;exact hH.none_of_ge (by omega))
  have Yr:At0 w v.ownBlock v3.ownBlock:=At0.step (.inl rfl) (by omega) hat3;have wH:w.grownBy w4 v.ownBlock:=yV yO hg4 Yr
  have Rj:w4.heap[w.heap.size]? = some (.cells #[.int .i64 x.kind,.int .u64 x.n,.slice ba x.bytes.length bc,.slice ia x.items.length ic] 26 (0,0)) :=
   (hg4.block _ (by omega) (fun h=>by
    rcases Yr with h' | ⟨g',h',hg'⟩
    ·rw[h']at h;have:=(vq.lt _ h.symm).2;omega
    ·rw[h']at h;injection h with h;subst h
     rcases hat3 with h3 | ⟨g3,h3,hg3'⟩
     ·rw[h3]at h';have:=(vq.lt _ h').2;omega
     ·rw[h']at h3;injection h3 with h3;omega)).trans Wf
  have OP:=kV Rj 3
  simp at OP
  have Qu:At0 w v.ownBlock v4.ownBlock:=At0.step Yr (by omega) hat4;clear ZZ Na Wf Rj;go_wp2_with (at_builtin;refine ye ?_)
  have eV:x.items.length≤9223372036854775807:=by have:=HB.out;omega
  go_loopw [0,45] (fun v' i wr=>∃ k:Nat,k≤x.items.length∧i=.int .i64 k∧OwnB wr base v' (l++zm x.kind.toNat (numP x)++x.bytes++zB (x.items.take k))∧
    w.grownBy wr v.ownBlock∧At0 w v.ownBlock v'.ownBlock) (fun _ i _=>x.items.length-(intOf i).toNat)
  case atStart=>exact⟨0,Nat.zero_le _,rfl,by simpa [zB] using hown4,wH,Qu⟩
  case round =>
   obtain⟨k,so,rfl,bn,xH,lA⟩:=hrel
   by_cases yi:k<x.items.length
   ·have X0:Holds wr H:=hH.grown xH HV.out;obtain⟨ib,io,tj,wI⟩:=hx.items (by omega);obtain⟨eba,ebc,eia,eic,q0,q1,q2,q3,uU⟩:=wI.get k yi;subst tj;have p0:=X0.cell q0;have p1:=X0.cell q1;have p2:=X0.cell q2;have p3:=X0.cell q3;have tW:=tf x.items k yi;have tw:=nO x.items (k+1)
    have ZM:∀ g,u0.ownBlock=some g→H g=none:=fun g hg=>by
     rcases lA with h | ⟨g',h,hg'⟩
     ·exact HV.out g (h ▸ hg)
     ·rw[h]at hg;injection hg with hg;subst hg;exact hH.none_of_ge hg'
    have Qi:=xH.size
    have pr:(l++zm x.kind.toNat (numP x)++x.bytes++zB (x.items.take k)).length+(zd x.items[k]).length≤1099511627776:=by
     have h1:=HL.out;rw[tW]at tw
     simp only[List.length_append]at h1 tw⊢
     omega
    have IHC:=ih x.items[k] (xP x k yi) H _ _ eba _ ebc eia _ eic (wr.alloc (.cells #[.int .i64 x.items[k].kind,.int .u64 x.items[k].n,.slice eba x.items[k].bytes.length ebc,.slice eia x.items[k].items.length eic] 26)) base u0 _
     (hk.items.get k yi) uU.arg (X0.alloc _) (bn.alloc _) (by simp;omega) ZM pr
    have IHH:=Hh IHC;have HF:=Hh tW;clear tW tw pr ZM q0 q1 q2 q3 IHC;go_wp2_with fail
    refine IHH.out.mono ?_
    rintro e w6 ⟨r6,rfl,VJ,tF,Rf⟩
    have R:OwnB w6 base r6 (l++zm x.kind.toNat (numP x)++x.bytes++zB (x.items.take (k+1)))∧w.grownBy w6 v.ownBlock∧At0 w v.ownBlock r6.ownBlock:=by
     refine⟨by rw[HF.out];simpa using VJ,yV (vz xH _) tF lA,At0.step lA (by simp;omega) Rf⟩
    clear VJ tF Rf bn xH lA IHH HF p0 p1 p2 p3;go_wp2_with fail
    go_roundw
    case rel=>exact⟨k+1,by omega,by go_num,R.1,R.2.1,R.2.2⟩
    case measure=>simp[intOf];omega
   ·have eW:k=x.items.length:=by omega
    subst eW;rw[List.take_length]at bn;go_wp2_with fail
    go_ret
    exact⟨_,rfl,by rw[E.out];simpa using bn,xH,lA⟩
theorem rL (x:Itm):pT x:=by
 have main:∀ N,∀ x:Itm,cnt x≤N→pT x:=by
  intro N
  induction N with
  | zero =>
   intro x hx
   have:0<cnt x:=by cases x;rw[cnt];omega
   omega
  | succ N ih =>
   intro x hx
   by_cases h8:x.kind=8
   ·exact Zt x h8
   ·by_cases h7:x.kind=7∧24≤x.n
    ·exact cM x h7.1 h7.2
    ·exact Xf x h8 h7 fun y hy=>ih y (by omega)
 exact main _ x (Nat.le_refl _)
theorem R4 (n:Nat):((n:Int)==9221120237041090560)=(n==9221120237041090560):=by rw[Bool.eq_iff_iff,beq_iff_eq,beq_iff_eq];omega
theorem Oh {α:Type}(l:List α):((l.length:Int)==0)=l.isEmpty:=by cases l <;> simp <;> omega
theorem Wr {a b c d:Bool}(h:a=b) (k:c=d):Ending.returned (.tuple #[.bool a,.bool c])=Ending.returned (.tuple #[.bool b,.bool d]):=by rw[h,k]
theorem WC {H:Snap}{x:Itm}{ba:Option Addr}{bc:Nat}{ia:Option Addr}{ic:Nat}(hx:IsItem H ba bc ia ic x) (w:World) (hk:x.kind=0∨x.kind=1∨x.kind=2∨x.kind=7):
  Calls Tryz.prog 64 #[xN x ba bc ia ic] w fun e w'=>e=.returned (.tuple #[.bool (yq x),.bool (yZ x)])∧Below w.heap.size w w':=by
 obtain⟨_,_,hn,vg,wg,qC,o7⟩:=hx.bounds;have hb:x.bytes.length≤9223372036854775807:=by omega
 have hi:x.items.length≤9223372036854775807:=by omega
 have HN:=Hh hn;clear vg wg qC o7 hx hn
 rcases hk with hk | hk | hk | hk
 all_goals
  have E:Hid (yq x=yq x∧yZ x=true):=⟨rfl,by simp[yZ,hk]⟩
  go_enter Tryz.func64,Tryz.ntmps64
  go_wp2
  all_goals go_ret2
 all_goals refine⟨Wr ?_ E.out.2.symm, ?_⟩
 all_goals first | exact zi w _ | exact(zi w _).drew | skip
 all_goals (simp[yq,Oh, *];try (rw[Bool.eq_iff_iff];simp;omega);skip)
 all_goals omega
theorem WG {H:Snap}(hT:Tabs H) {x:Itm}{ba:Option Addr}{bc:Nat}{ia:Option Addr}{ic:Nat}(hx:IsItem H ba bc ia ic x) (w:World) (hH:Holds w H) (hk:x.kind=3):
  Calls Tryz.prog 64 #[xN x ba bc ia ic] w fun e w'=>e=.returned (.tuple #[.bool (yq x),.bool (yZ x)])∧Below w.heap.size w w':=by
 obtain⟨_,_,hn,vg,wg,qC,o7⟩:=hx.bounds;have hb:x.bytes.length≤9223372036854775807:=by omega
 have hi:x.items.length≤9223372036854775807:=by omega
 have HN:=Hh hn;have gV:=hx.bytes;clear vg wg qC o7 hx hn;have E:Hid (yZ x=true):=by simp[Hid,yZ,hk]
 go_enter Tryz.func64,Tryz.ntmps64
 go_wp2_with (go_at_call 62;refine(tQ hT _ (hH.alloc _) ba _ _ bc rfl gV).mono ?_;rintro e w1 ⟨rfl,vg⟩)
 all_goals go_ret2
 all_goals refine⟨Wr ?_ E.out.symm, ?_⟩
 all_goals first | exact(zi w _).trans (vg.mono (by simp)) | exact zi w _ | exact(zi w _).drew | skip
 all_goals (simp[yq, *])
theorem WE {H:Snap}{x:Itm}{ba:Option Addr}{bc:Nat}{ia:Option Addr}{ic:Nat}(hx:IsItem H ba bc ia ic x) (w:World) (hk:x.kind=8) :
  Calls Tryz.prog 64 #[xN x ba bc ia ic] w fun e w'=>e=.returned (.tuple #[.bool (yq x),.bool (yZ x)])∧Below w.heap.size w w':=by
 obtain⟨_,_,hn,vg,wg,qC,o7⟩:=hx.bounds;have hb:x.bytes.length≤9223372036854775807:=by omega
 have hi:x.items.length≤9223372036854775807:=by omega
 have HN:=Hh hn;clear vg wg qC o7 hx hn;have E:Hid (yZ x=true):=by simp[Hid,yZ,hk]
 go_enter Tryz.func64,Tryz.ntmps64
 have r1:=vZ x.n;have r2:=j4 x.n;go_wp2
 all_goals go_ret2
 all_goals refine⟨Wr ?_ E.out.symm, ?_⟩
 all_goals first | exact zi w _ | exact(zi w _).drew | skip
 all_goals simp[yq,zT,R4, *]
theorem WF {x:Itm}{ba:Option Addr}{bc:Nat}{ia:Option Addr}{ic:Nat}(w:World) (hk:yZ x=false) :
  Calls Tryz.prog 64 #[xN x ba bc ia ic] w fun e w'=>e=.returned (.tuple #[.bool (yq x),.bool (yZ x)])∧Below w.heap.size w w':=by
 have h:(x.kind==0)=false∧(x.kind==1)=false∧(x.kind==2)=false∧(x.kind==3)=false∧(x.kind==7)=false∧(x.kind==8)=false:=by
  simp only[yZ,Bool.or_eq_false_iff]at hk
  simp only[hk,and_self]
 obtain⟨h0,h1,h2,h3,h7,h8⟩:=h
 have E:Hid (yZ x=false∧yq x=false):=⟨hk,by
  simp only[beq_eq_false_iff_ne,ne_eq]at h0 h1 h2 h3 h7 h8
  simp[yq, *]⟩
 clear hk;go_enter Tryz.func64,Tryz.ntmps64
 go_wp2
 go_ret2
 exact⟨Wr E.out.2.symm E.out.1.symm,zi w _⟩
theorem oD {H:Snap}(hT:Tabs H) {k n:Int}{ba:Option Addr}{bl bc:Nat}{ia:Option Addr}{il ic:Nat}{x:Itm}(hx:ItemA H k n ba bl bc ia il ic x) (w:World) (hH:Holds w H) :
  Calls Tryz.prog 64 #[.agg #[.int .i64 k,.int .u64 n,.slice ba bl bc,.slice ia il ic]] w fun e w'=>e=.returned (.tuple #[.bool (yq x),.bool (yZ x)])∧Below w.heap.size w w':=by
 obtain⟨rfl,rfl,rfl,rfl,hx⟩:=hx
 by_cases h3:x.kind=3
 ·exact WG hT hx w hH h3
 by_cases h8:x.kind=8
 ·exact WE hx w h8
 by_cases ha:x.kind=0∨x.kind=1∨x.kind=2∨x.kind=7
 ·exact WC hx w ha
 ·exact WF w (by simp[yZ];omega)
def wM:Option Nat→Int
 | none => -1
 | some r=>r
def uv (x:Itm):Prop:=∀ (H:Snap),Tabs H→∀ (k n:Int) (ba:Option Addr) (bl bc:Nat) (ia:Option Addr) (il ic:Nat) (w:World) (c d:Nat),
 ItemA H k n ba bl bc ia il ic x→Holds w H→c≤65536→d≤65536→
 Calls Tryz.prog 51 #[.agg #[.int .i64 k,.int .u64 n,.slice ba bl bc,.slice ia il ic],.int .i64 c,.int .i64 d] w fun e w'=>e=.returned (.int .i64 (wM (zN x c d)))∧Below w.heap.size w w'
theorem aK (x:Itm) {H:Snap}{ba:Option Addr}{bc:Nat}{ia:Option Addr}{ic:Nat}(w:World) (d:Nat) :
  Calls Tryz.prog 51 #[xN x ba bc ia ic,.int .i64 0,.int .i64 d] w fun e w'=>e=.returned (.int .i64 (wM (zN x 0 d)))∧Below w.heap.size w w':=by
 have E:Hid (zN x 0 d=none):=by rw[Hid,y7,if_pos (by omega)]
 go_enter Tryz.func51,Tryz.ntmps51
 go_wp2_with fail
 go_ret
 exact⟨by rw[E.out];rfl,zi w _⟩
theorem zI {x:Itm}{c d:Nat}(h:zZ x d (c-1)=false):zN x c d=none:=by
 rw[y7]
 by_cases h1:c<1
 ·rw[if_pos h1]
 ·rw[if_neg h1,if_pos h]
theorem sv {x:Itm}{d m:Nat}(hk:x.kind=0∨x.kind=1):zZ x d m=true↔x.bytes.length=0∧x.items.length=0:=by
 have hp:=(z8 x).2 (by omega)
 unfold zZ xZ yq
 rw[if_pos hp,if_pos hk]
 simp only[Bool.and_eq_true,List.isEmpty_iff,decide_eq_true_eq,List.length_eq_zero_iff]
 constructor
 ·rintro⟨⟨⟨a,b⟩,_⟩,_⟩;exact⟨a,b⟩
 ·rintro⟨a,b⟩;exact⟨⟨⟨a,b⟩,by rw[a];simp⟩,by rw[b];simp⟩
theorem lg {x:Itm}{d m:Nat}(hk:x.kind=2):zZ x d m=true↔x.n=0∧x.items.length=0∧x.bytes.length≤4096:=by
 have hp:=(z8 x).2 (by omega)
 unfold zZ xZ yq
 rw[if_pos hp,if_neg (by omega),if_pos hk]
 simp only[Bool.and_eq_true,List.isEmpty_iff,decide_eq_true_eq,List.length_eq_zero_iff,beq_iff_eq]
 constructor
 ·rintro⟨⟨⟨a,b⟩,c⟩,_⟩;exact⟨a,b,c⟩
 ·rintro⟨a,b,c⟩;exact⟨⟨⟨a,b⟩,c⟩,by rw[b];simp⟩
theorem rs {x:Itm}{d m:Nat}(hk:x.kind=3):zZ x d m=true↔x.n=0∧x.items.length=0∧x.bytes.length≤4096∧Lib.validD x.bytes=true:=by
 have hp:=(z8 x).2 (by omega)
 unfold zZ xZ yq
 rw[if_pos hp,if_neg (by omega),if_neg (by omega),if_pos hk]
 simp only[Bool.and_eq_true,List.isEmpty_iff,decide_eq_true_eq,List.length_eq_zero_iff,beq_iff_eq]
 constructor
 ·rintro⟨⟨⟨⟨a,b⟩,v⟩,c⟩,_⟩;exact⟨a,b,c,v⟩
 ·rintro⟨a,b,c,v⟩;exact⟨⟨⟨⟨a,b⟩,v⟩,c⟩,by rw[b];simp⟩
theorem lh {x:Itm}{d m:Nat}(hk:x.kind=7):zZ x d m=true↔x.bytes.length=0∧x.items.length=0∧(x.n<24∨(32≤x.n∧x.n<256)):=by
 have hp:=(z8 x).2 (by omega)
 unfold zZ xZ yq
 rw[if_pos hp,if_neg (by omega),if_neg (by omega),if_neg (by omega),if_pos hk]
 simp only[Bool.and_eq_true,Bool.or_eq_true,List.isEmpty_iff,decide_eq_true_eq,List.length_eq_zero_iff,beq_iff_eq]
 constructor
 ·rintro⟨⟨⟨⟨a,b⟩,v⟩,_⟩,_⟩;exact⟨a,b,v⟩
 ·rintro⟨a,b,v⟩;exact⟨⟨⟨⟨a,b⟩,v⟩,by rw[a];simp⟩,by rw[b];simp⟩
theorem vK {x:Itm}{d m:Nat}(hk:x.kind=8):zZ x d m=true↔x.bytes.length=0∧x.items.length=0∧(isNaN x.n=false∨x.n=zT):=by
 have hp:=(z8 x).2 (by omega)
 unfold zZ xZ yq
 rw[if_pos hp,if_neg (by omega),if_neg (by omega),if_neg (by omega),if_neg (by omega),if_pos hk]
 simp only[Bool.and_eq_true,Bool.or_eq_true,List.isEmpty_iff,decide_eq_true_eq,List.length_eq_zero_iff,beq_iff_eq,Bool.not_eq_true']
 constructor
 ·rintro⟨⟨⟨⟨a,b⟩,v⟩,_⟩,_⟩;exact⟨a,b,v⟩
 ·rintro⟨a,b,v⟩;exact⟨⟨⟨⟨a,b⟩,v⟩,by rw[a];simp⟩,by rw[b];simp⟩
theorem zH {x:Itm}{d m:Nat}(hk:4≤x.kind∧x.kind≤6):zZ x d m=true↔d<8∧x.bytes.length=0∧(x.kind=6→x.items.length=1)∧(x.kind≠6→x.n=0)∧(x.kind=5→x.items.length%2=0)∧x.items.length≤m:=by
 have hp:¬ yZ x=true:=by rw[z8];omega
 unfold zZ xZ vj
 rw[if_neg hp]
 simp only[Bool.and_eq_true,decide_eq_true_eq]
 constructor
 ·rintro⟨⟨⟨_,_,a,b,c,d,e⟩,_⟩,f⟩;exact⟨a,b,c,d,e,f⟩
 ·rintro⟨a,b,c,d,e,f⟩;exact⟨⟨⟨hk.1,hk.2,a,b,c,d,e⟩,by omega⟩,f⟩
theorem aS {x:Itm}{d m:Nat}(hk:x.kind<0∨8<x.kind):zZ x d m=false:=by
 cases h:zZ x d m with
 | false=>rfl
 | true =>
  have:=rp (kH h).1
  omega
theorem yj {x:Itm}{c d:Nat}(hc:0<c) (h:zZ x d (c-1)=true) (h0:x.items.length=0):zN x c d=some (c-1):=by
 rw[List.length_eq_zero_iff]at h0;rw[y7,if_neg (by omega),if_neg (by simp[h]),h0,zL]
 simp only
 rw[if_neg (by rintro⟨_,h⟩;cases h)]
theorem Vr (x:Itm) (hk:x.kind=0) {H:Snap}(hT:Tabs H) (ih:∀ y:Itm,cnt y<cnt x→uv y) {ba:Option Addr}{bc:Nat}{ia:Option Addr}{ic:Nat}(hx:IsItem H ba bc ia ic x) (w:World) (hH:Holds w H) (c d:Nat) (sO:0<c) (hc:c≤65536) (hd:d≤65536) :
  Calls Tryz.prog 51 #[xN x ba bc ia ic,.int .i64 c,.int .i64 d] w fun e w'=>e=.returned (.int .i64 (wM (zN x c d)))∧Below w.heap.size w w':=by
 have HX:=Hh hx;have tv:=hx.bounds;have hB:=Blk.new w 26 #[.int .i64 x.kind,.int .u64 x.n,.slice ba x.bytes.length bc,.slice ia x.items.length ic];have xj:=zi w (zW x ba bc ia ic);have p8:((c-1:Nat):Int)=(c:Int)-1:=by omega
 have sN:x.bytes.length≤9223372036854775807:=by omega
 have eV:x.items.length≤9223372036854775807:=by omega
 have HN:=Hh tv.2.2.1;have XU:¬ (c:Int)<1:=by omega
 have k0:¬ x.kind<0:=by omega
 have k8:¬ 8<x.kind:=by omega
 have HK:=Hh hk;have sU:=Hh p8;clear hx tv p8;obtain⟨b0,b1,b2,b3,b4,b5,b6,b7,b8⟩:=YW hk;clear hk
 by_cases zQ:x.n=0
 ·have bn00:((x.n:Int) != 0)=false:=by simp[zQ]
  have bn01:(x.n=0)=True:=by first | exact eq_true zQ | exact eq_false zQ
  have wY:=Hh zQ;clear zQ;go_enter Tryz.func51,Tryz.ntmps51
  go_upto_region 22 with fail
  any_goals
   (have xw:zZ x d (c-1)=false:=by
     cases hq:zZ x d (c-1) with
     | false=>rfl
     | true=>exact absurd ((sv (.inl HK.out)).1 hq) (by have zQ:=wY.out;omega)
    go_ret
    exact⟨by rw[zI xw];rfl,xj⟩)
  all_goals
   have zS:zZ x d (c-1)=true:=(sv (.inl HK.out)).2 ⟨by omega,by omega⟩;have xt:x.items.length=0:=by have zQ:=wY.out;omega
   have hk:=HK.out;have E:Hid (zN x c d=some (c-1)):=yj sO zS xt;have oc:¬ (0:Int)<x.items.length:=by omega
   have rX:¬ (2:Int)<x.items.length:=by omega
   have HI:=Hh xt;have HC:=Hh zS;clear xt hk zS;have c0:=hB.cell 0 rfl;have c3:=hB.cell 3 rfl;go_wp2_with fail
   refine wp_loop_rounds 1 ?_
   rw[rounds_succ];go_wp2_with fail
   refine wp_loop_rounds 1 ?_
   rw[rounds_succ];go_wp2_with fail
   go_ret
   exact⟨by rw[E.out,← sU.out];rfl,xj⟩
 ·have bn00:((x.n:Int) != 0)=true:=by simp[zQ]
  have bn01:(x.n=0)=False:=by first | exact eq_true zQ | exact eq_false zQ
  have wY:=Hh zQ;clear zQ;go_enter Tryz.func51,Tryz.ntmps51
  go_upto_region 22 with fail
  any_goals
   (have xw:zZ x d (c-1)=false:=by
     cases hq:zZ x d (c-1) with
     | false=>rfl
     | true=>exact absurd ((sv (.inl HK.out)).1 hq) (by have zQ:=wY.out;omega)
    go_ret
    exact⟨by rw[zI xw];rfl,xj⟩)
  all_goals
   have zS:zZ x d (c-1)=true:=(sv (.inl HK.out)).2 ⟨by omega,by omega⟩;have xt:x.items.length=0:=by have zQ:=wY.out;omega
   have hk:=HK.out;have E:Hid (zN x c d=some (c-1)):=yj sO zS xt;have oc:¬ (0:Int)<x.items.length:=by omega
   have rX:¬ (2:Int)<x.items.length:=by omega
   have HI:=Hh xt;have HC:=Hh zS;clear xt hk zS;have c0:=hB.cell 0 rfl;have c3:=hB.cell 3 rfl;go_wp2_with fail
   refine wp_loop_rounds 1 ?_
   rw[rounds_succ];go_wp2_with fail
   refine wp_loop_rounds 1 ?_
   rw[rounds_succ];go_wp2_with fail
   go_ret
   exact⟨by rw[E.out,← sU.out];rfl,xj⟩
theorem Vs (x:Itm) (hk:x.kind=1) {H:Snap}(hT:Tabs H) (ih:∀ y:Itm,cnt y<cnt x→uv y) {ba:Option Addr}{bc:Nat}{ia:Option Addr}{ic:Nat}(hx:IsItem H ba bc ia ic x) (w:World) (hH:Holds w H) (c d:Nat) (sO:0<c) (hc:c≤65536) (hd:d≤65536) :
  Calls Tryz.prog 51 #[xN x ba bc ia ic,.int .i64 c,.int .i64 d] w fun e w'=>e=.returned (.int .i64 (wM (zN x c d)))∧Below w.heap.size w w':=by
 have HX:=Hh hx;have tv:=hx.bounds;have hB:=Blk.new w 26 #[.int .i64 x.kind,.int .u64 x.n,.slice ba x.bytes.length bc,.slice ia x.items.length ic];have xj:=zi w (zW x ba bc ia ic);have p8:((c-1:Nat):Int)=(c:Int)-1:=by omega
 have sN:x.bytes.length≤9223372036854775807:=by omega
 have eV:x.items.length≤9223372036854775807:=by omega
 have HN:=Hh tv.2.2.1;have XU:¬ (c:Int)<1:=by omega
 have k0:¬ x.kind<0:=by omega
 have k8:¬ 8<x.kind:=by omega
 have HK:=Hh hk;have sU:=Hh p8;clear hx tv p8;obtain⟨b0,b1,b2,b3,b4,b5,b6,b7,b8⟩:=YX hk;clear hk
 by_cases zQ:x.n=0
 ·have bn00:((x.n:Int) != 0)=false:=by simp[zQ]
  have bn01:(x.n=0)=True:=by first | exact eq_true zQ | exact eq_false zQ
  have wY:=Hh zQ;clear zQ;go_enter Tryz.func51,Tryz.ntmps51
  go_upto_region 22 with fail
  any_goals
   (have xw:zZ x d (c-1)=false:=by
     cases hq:zZ x d (c-1) with
     | false=>rfl
     | true=>exact absurd ((sv (.inr HK.out)).1 hq) (by have zQ:=wY.out;omega)
    go_ret
    exact⟨by rw[zI xw];rfl,xj⟩)
  all_goals
   have zS:zZ x d (c-1)=true:=(sv (.inr HK.out)).2 ⟨by omega,by omega⟩;have xt:x.items.length=0:=by have zQ:=wY.out;omega
   have hk:=HK.out;have E:Hid (zN x c d=some (c-1)):=yj sO zS xt;have oc:¬ (0:Int)<x.items.length:=by omega
   have rX:¬ (2:Int)<x.items.length:=by omega
   have HI:=Hh xt;have HC:=Hh zS;clear xt hk zS;have c0:=hB.cell 0 rfl;have c3:=hB.cell 3 rfl;go_wp2_with fail
   refine wp_loop_rounds 1 ?_
   rw[rounds_succ];go_wp2_with fail
   refine wp_loop_rounds 1 ?_
   rw[rounds_succ];go_wp2_with fail
   go_ret
   exact⟨by rw[E.out,← sU.out];rfl,xj⟩
 ·have bn00:((x.n:Int) != 0)=true:=by simp[zQ]
  have bn01:(x.n=0)=False:=by first | exact eq_true zQ | exact eq_false zQ
  have wY:=Hh zQ;clear zQ;go_enter Tryz.func51,Tryz.ntmps51
  go_upto_region 22 with fail
  any_goals
   (have xw:zZ x d (c-1)=false:=by
     cases hq:zZ x d (c-1) with
     | false=>rfl
     | true=>exact absurd ((sv (.inr HK.out)).1 hq) (by have zQ:=wY.out;omega)
    go_ret
    exact⟨by rw[zI xw];rfl,xj⟩)
  all_goals
   have zS:zZ x d (c-1)=true:=(sv (.inr HK.out)).2 ⟨by omega,by omega⟩;have xt:x.items.length=0:=by have zQ:=wY.out;omega
   have hk:=HK.out;have E:Hid (zN x c d=some (c-1)):=yj sO zS xt;have oc:¬ (0:Int)<x.items.length:=by omega
   have rX:¬ (2:Int)<x.items.length:=by omega
   have HI:=Hh xt;have HC:=Hh zS;clear xt hk zS;have c0:=hB.cell 0 rfl;have c3:=hB.cell 3 rfl;go_wp2_with fail
   refine wp_loop_rounds 1 ?_
   rw[rounds_succ];go_wp2_with fail
   refine wp_loop_rounds 1 ?_
   rw[rounds_succ];go_wp2_with fail
   go_ret
   exact⟨by rw[E.out,← sU.out];rfl,xj⟩
theorem Vt (x:Itm) (hk:x.kind=2) {H:Snap}(hT:Tabs H) (ih:∀ y:Itm,cnt y<cnt x→uv y) {ba:Option Addr}{bc:Nat}{ia:Option Addr}{ic:Nat}(hx:IsItem H ba bc ia ic x) (w:World) (hH:Holds w H) (c d:Nat) (sO:0<c) (hc:c≤65536) (hd:d≤65536) :
  Calls Tryz.prog 51 #[xN x ba bc ia ic,.int .i64 c,.int .i64 d] w fun e w'=>e=.returned (.int .i64 (wM (zN x c d)))∧Below w.heap.size w w':=by
 have HX:=Hh hx;have tv:=hx.bounds;have hB:=Blk.new w 26 #[.int .i64 x.kind,.int .u64 x.n,.slice ba x.bytes.length bc,.slice ia x.items.length ic];have xj:=zi w (zW x ba bc ia ic);have p8:((c-1:Nat):Int)=(c:Int)-1:=by omega
 have sN:x.bytes.length≤9223372036854775807:=by omega
 have eV:x.items.length≤9223372036854775807:=by omega
 have HN:=Hh tv.2.2.1;have XU:¬ (c:Int)<1:=by omega
 have k0:¬ x.kind<0:=by omega
 have k8:¬ 8<x.kind:=by omega
 have HK:=Hh hk;have sU:=Hh p8;clear hx tv p8;obtain⟨b0,b1,b2,b3,b4,b5,b6,b7,b8⟩:=YY hk;clear hk
 by_cases zQ:x.n=0
 ·have bn00:((x.n:Int) != 0)=false:=by simp[zQ]
  have bn01:(x.n=0)=True:=by first | exact eq_true zQ | exact eq_false zQ
  have wY:=Hh zQ;clear zQ;go_enter Tryz.func51,Tryz.ntmps51
  go_upto_region 22 with fail
  any_goals
   (have xw:zZ x d (c-1)=false:=by
     cases hq:zZ x d (c-1) with
     | false=>rfl
     | true=>exact absurd ((lg HK.out).1 hq) (by have zQ:=wY.out;omega)
    go_ret
    exact⟨by rw[zI xw];rfl,xj⟩)
  all_goals
   have zS:zZ x d (c-1)=true:=(lg HK.out).2 ⟨wY.out,by omega,by omega⟩;have xt:x.items.length=0:=by have zQ:=wY.out;omega
   have hk:=HK.out;have E:Hid (zN x c d=some (c-1)):=yj sO zS xt;have oc:¬ (0:Int)<x.items.length:=by omega
   have rX:¬ (2:Int)<x.items.length:=by omega
   have HI:=Hh xt;have HC:=Hh zS;clear xt hk zS;have c0:=hB.cell 0 rfl;have c3:=hB.cell 3 rfl;go_wp2_with fail
   refine wp_loop_rounds 1 ?_
   rw[rounds_succ];go_wp2_with fail
   refine wp_loop_rounds 1 ?_
   rw[rounds_succ];go_wp2_with fail
   go_ret
   exact⟨by rw[E.out,← sU.out];rfl,xj⟩
 ·have bn00:((x.n:Int) != 0)=true:=by simp[zQ]
  have bn01:(x.n=0)=False:=by first | exact eq_true zQ | exact eq_false zQ
  have wY:=Hh zQ;clear zQ;go_enter Tryz.func51,Tryz.ntmps51
  go_upto_region 22 with fail
  any_goals
   (have xw:zZ x d (c-1)=false:=by
     cases hq:zZ x d (c-1) with
     | false=>rfl
     | true=>exact absurd ((lg HK.out).1 hq) (by have zQ:=wY.out;omega)
    go_ret
    exact⟨by rw[zI xw];rfl,xj⟩)
  all_goals
   have zS:zZ x d (c-1)=true:=(lg HK.out).2 ⟨wY.out,by omega,by omega⟩;have xt:x.items.length=0:=by have zQ:=wY.out;omega
   have hk:=HK.out;have E:Hid (zN x c d=some (c-1)):=yj sO zS xt;have oc:¬ (0:Int)<x.items.length:=by omega
   have rX:¬ (2:Int)<x.items.length:=by omega
   have HI:=Hh xt;have HC:=Hh zS;clear xt hk zS;have c0:=hB.cell 0 rfl;have c3:=hB.cell 3 rfl;go_wp2_with fail
   refine wp_loop_rounds 1 ?_
   rw[rounds_succ];go_wp2_with fail
   refine wp_loop_rounds 1 ?_
   rw[rounds_succ];go_wp2_with fail
   go_ret
   exact⟨by rw[E.out,← sU.out];rfl,xj⟩
theorem Vy (x:Itm) (hk:x.kind=7) {H:Snap}(hT:Tabs H) (ih:∀ y:Itm,cnt y<cnt x→uv y) {ba:Option Addr}{bc:Nat}{ia:Option Addr}{ic:Nat}(hx:IsItem H ba bc ia ic x) (w:World) (hH:Holds w H) (c d:Nat) (sO:0<c) (hc:c≤65536) (hd:d≤65536) :
  Calls Tryz.prog 51 #[xN x ba bc ia ic,.int .i64 c,.int .i64 d] w fun e w'=>e=.returned (.int .i64 (wM (zN x c d)))∧Below w.heap.size w w':=by
 have HX:=Hh hx;have tv:=hx.bounds;have hB:=Blk.new w 26 #[.int .i64 x.kind,.int .u64 x.n,.slice ba x.bytes.length bc,.slice ia x.items.length ic];have xj:=zi w (zW x ba bc ia ic);have p8:((c-1:Nat):Int)=(c:Int)-1:=by omega
 have sN:x.bytes.length≤9223372036854775807:=by omega
 have eV:x.items.length≤9223372036854775807:=by omega
 have HN:=Hh tv.2.2.1;have XU:¬ (c:Int)<1:=by omega
 have k0:¬ x.kind<0:=by omega
 have k8:¬ 8<x.kind:=by omega
 have HK:=Hh hk;have sU:=Hh p8;clear hx tv p8;obtain⟨b0,b1,b2,b3,b4,b5,b6,b7,b8⟩:=Yd hk;clear hk
 by_cases zQ:x.n=0
 ·have bn00:((x.n:Int) != 0)=false:=by simp[zQ]
  have bn01:(x.n=0)=True:=by first | exact eq_true zQ | exact eq_false zQ
  have wY:=Hh zQ;clear zQ;go_enter Tryz.func51,Tryz.ntmps51
  go_upto_region 22 with fail
  any_goals
   (have xw:zZ x d (c-1)=false:=by
     cases hq:zZ x d (c-1) with
     | false=>rfl
     | true=>exact absurd ((lh HK.out).1 hq) (by have zQ:=wY.out;omega)
    go_ret
    exact⟨by rw[zI xw];rfl,xj⟩)
  all_goals
   have zS:zZ x d (c-1)=true:=(lh HK.out).2 ⟨by omega,by omega,by have zQ:=wY.out;omega⟩;have xt:x.items.length=0:=by have zQ:=wY.out;omega
   have hk:=HK.out;have E:Hid (zN x c d=some (c-1)):=yj sO zS xt;have oc:¬ (0:Int)<x.items.length:=by omega
   have rX:¬ (2:Int)<x.items.length:=by omega
   have HI:=Hh xt;have HC:=Hh zS;clear xt hk zS;have c0:=hB.cell 0 rfl;have c3:=hB.cell 3 rfl;go_wp2_with fail
   refine wp_loop_rounds 1 ?_
   rw[rounds_succ];go_wp2_with fail
   refine wp_loop_rounds 1 ?_
   rw[rounds_succ];go_wp2_with fail
   go_ret
   exact⟨by rw[E.out,← sU.out];rfl,xj⟩
 ·have bn00:((x.n:Int) != 0)=true:=by simp[zQ]
  have bn01:(x.n=0)=False:=by first | exact eq_true zQ | exact eq_false zQ
  have wY:=Hh zQ;clear zQ;go_enter Tryz.func51,Tryz.ntmps51
  go_upto_region 22 with fail
  any_goals
   (have xw:zZ x d (c-1)=false:=by
     cases hq:zZ x d (c-1) with
     | false=>rfl
     | true=>exact absurd ((lh HK.out).1 hq) (by have zQ:=wY.out;omega)
    go_ret
    exact⟨by rw[zI xw];rfl,xj⟩)
  all_goals
   have zS:zZ x d (c-1)=true:=(lh HK.out).2 ⟨by omega,by omega,by have zQ:=wY.out;omega⟩;have xt:x.items.length=0:=by have zQ:=wY.out;omega
   have hk:=HK.out;have E:Hid (zN x c d=some (c-1)):=yj sO zS xt;have oc:¬ (0:Int)<x.items.length:=by omega
   have rX:¬ (2:Int)<x.items.length:=by omega
   have HI:=Hh xt;have HC:=Hh zS;clear xt hk zS;have c0:=hB.cell 0 rfl;have c3:=hB.cell 3 rfl;go_wp2_with fail
   refine wp_loop_rounds 1 ?_
   rw[rounds_succ];go_wp2_with fail
   refine wp_loop_rounds 1 ?_
   rw[rounds_succ];go_wp2_with fail
   go_ret
   exact⟨by rw[E.out,← sU.out];rfl,xj⟩
end Go.Proofs.YtnlinmoiakgedaaGreatDoor
