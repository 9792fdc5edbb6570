/- squeezed. Walks: cbor.head. Walks: cbor.majo -/
import Derived.RegionTactic
import Derived.ChangeAlike
import Derived.Laws.FloatArith
import Derived.Test.YtliomcphdnppnaaGreatDoorK05
import Derived.Shelf.Unicode.DecodeSlow
import Derived.Test.YtliomcphdnppnaaGreatDoorK03
set_option linter.unusedVariables false
set_option linter.unusedSimpArgs false
set_option maxRecDepth 100000
set_option maxHeartbeats 3200000
namespace Go.Proofs.YtliomcphdnppnaaGreatDoor
open Go.RowKit
theorem iE (m n:Int) (w:World) (ft:0≤m) (hm:m<8) (h0:0≤n) (h1:n<18446744073709551616) :
  Calls Tryz.prog 121 #[.int .u8 m,.int .u64 n] w fun e w'=>∃ r,e=.returned r∧Fresh w (yE m.toNat n.toNat) r w':=by
 obtain⟨m',qL⟩:=Int.eq_ofNat_of_zero_le ft;obtain⟨n',Vq⟩:=Int.eq_ofNat_of_zero_le h0;have HM:=Hh qL;have HN:=Hh Vq;have H1:=Hh h1;clear h1 qL Vq;go_enter Tryz.func121,Tryz.ntmps121
 go_wp2
 ·go_ret
  obtain rfl:=HM.out;obtain rfl:=HN.out;rw[Int.toNat_natCast,Int.toNat_natCast];have zB:(n':Int)<24:=by with_reducible assumption
  refine⟨_,rfl,Fresh.lit _ _ _ 1 ?_ ?_ ?_⟩
  ·rw[uz,if_pos (by omega)]
  ·have:=(um m' n').2;omega
  rw[yE,if_pos (by omega)]
  simp only[List.map_cons,List.map_nil,xZ]
  rw[oE m' n' (by omega) (by omega),Nat.mod_eq_of_lt (by omega)]
 ·go_ret
  obtain rfl:=HM.out;obtain rfl:=HN.out;rw[Int.toNat_natCast,Int.toNat_natCast];have fe:(24:Int)≤n':=by with_reducible assumption
  have zB:(n':Int)<256:=by with_reducible assumption
  refine⟨_,rfl,Fresh.lit _ _ _ 2 ?_ ?_ ?_⟩
  ·rw[uz,if_neg (by omega),if_pos (by omega)]
  ·have:=(um m' n').2;omega
  rw[yE,if_neg (by omega),if_pos (by omega)]
  simp only[List.map_cons,List.map_nil,xZ]
  have e24':=oE m' 24 (by omega) (by omega);rw[show((24:Nat):Int)=24 from rfl]at e24';rw[e24',Nat.mod_eq_of_lt (by omega),Nat.mod_eq_of_lt (by omega)]
 ·go_ret
  obtain rfl:=HM.out;obtain rfl:=HN.out;rw[Int.toNat_natCast,Int.toNat_natCast];have fe:(256:Int)≤n':=by with_reducible assumption
  have zB:(n':Int)<65536:=by with_reducible assumption
  refine⟨_,rfl,Fresh.lit _ _ _ 3 ?_ ?_ ?_⟩
  ·rw[uz,if_neg (by omega),if_neg (by omega),if_pos (by omega)]
  ·have:=(um m' n').2;omega
  rw[yE,if_neg (by omega),if_neg (by omega),if_pos (by omega)]
  simp only[List.map_cons,List.map_nil,xZ]
  have e24':=oE m' 25 (by omega) (by omega);rw[show((25:Nat):Int)=25 from rfl]at e24';rw[e24',Nat.mod_eq_of_lt (show m'*32+25<256 by omega),Nat.mod_eq_of_lt (show n'/256<256 by omega)];rfl
 ·go_ret
  obtain rfl:=HM.out;obtain rfl:=HN.out;rw[Int.toNat_natCast,Int.toNat_natCast];have fe:(65536:Int)≤n':=by with_reducible assumption
  have zB:(n':Int)<4294967296:=by with_reducible assumption
  refine⟨_,rfl,Fresh.lit _ _ _ 5 ?_ ?_ ?_⟩
  ·rw[uz,if_neg (by omega),if_neg (by omega),if_neg (by omega),if_pos (by omega)]
  ·have:=(um m' n').2;omega
  rw[yE,if_neg (by omega),if_neg (by omega),if_neg (by omega),if_pos (by omega)]
  simp only[List.map_cons,List.map_nil,xZ]
  have e24':=oE m' 26 (by omega) (by omega);rw[show((26:Nat):Int)=26 from rfl]at e24';rw[e24',Nat.mod_eq_of_lt (show m'*32+26<256 by omega),Nat.mod_eq_of_lt (show n'/16777216<256 by omega)];rfl
 have HG:Hid (yE m.toNat n.toNat=u8 (m.toNat*32+27)::be8 n.toNat 8):=by
  have fe:(4294967296:Int)≤n:=by with_reducible assumption
  rw[yE,if_neg (by omega),if_neg (by omega),if_neg (by omega),if_neg (by omega)];rfl
 have vR:OwnB (w.alloc (.cells #[.int .u8 (bits .or .u8 (m*32) 27)] 5)) w.heap.size (.slice (some ⟨w.heap.size,0,none⟩) 1 1) [u8 (m.toNat*32+27)]:=by
  refine OwnB.lit w _ _ _ 1 rfl ?_ (Nat.le_refl _) (by simp)
  have e27':=oE m.toNat 27 (by omega) (by omega);rw[show((27:Nat):Int)=27 from rfl,Int.toNat_of_nonneg ft]at e27'
  simp only[List.map_cons,List.map_nil,xZ]
  rw[e27',Nat.mod_eq_of_lt (by omega)]
 go_loopw [6,7] (fun v s wr=>∃ k:Nat,k≤8∧s=.int .i64 (56-8*(k:Int))∧OwnB wr w.heap.size v (u8 (m.toNat*32+27)::be8 n.toNat k)∧Below w.heap.size w wr) (fun _ s _=>(intOf s+8).toNat)
 case atStart=>exact⟨0,by omega,rfl,vR,(Below.refl _ _).alloc (Nat.le_refl _) _⟩
 case round =>
 obtain⟨k,hk,rfl,xt,hb⟩:=hrel
 by_cases zB:k<8
 ·have mu:=hb.size;go_wp2_with (at_builtin;refine zn rfl (.tmp 61) (.tmp 66) rfl w.heap.size _ _ rfl (xt.alloc _) _ 1 1 [u8 (n.toNat/2 ^ (56-8*k))] rfl rfl ?hs ?hl ?hz ?_)
  case hs =>
   rw[We (n/2 ^ (56-8*k)%256) (n.toNat/2 ^ (56-8*k)) (by obtain rfl:=HN.out;simp)]
   exact Src.lit wr #[zv (u8 (n.toNat/2 ^ (56-8*k)))] _
  case hl=>simp[uZ];omega
  case hz=>simp;omega
  intro v' w' hown' hg _
  have R:OwnB w' w.heap.size v' (u8 (m.toNat*32+27)::be8 n.toNat (k+1))∧Below w.heap.size w w' :=
   ⟨by simpa [be8] using hown',((hb.alloc mu _).grown hg (by simp;omega) (fun g hg=>(xt.lt g hg).1))⟩
  clear hown' hg xt hb vR;go_wp2
  go_roundw
  case rel=>exact⟨k+1,by omega,by go_num,R.1,R.2⟩
  case measure=>simp[intOf];omega
 have Pb:k=8:=by omega
 subst Pb;go_wp2
 go_ret
 refine⟨_,rfl, ?_⟩
 rw[HG.out]
 exact⟨xt,hb⟩
theorem jw {H:Snap}{k n:Int}{ba:Option Addr}{bl bc:Nat}{ia:Option Addr}{il ic:Nat}{x:Itm}(hx:ItemA H k n ba bl bc ia il ic x) (w:World) (h0:0≤x.kind) (h8:x.kind≤8) :
  Calls Tryz.prog 122 #[.agg #[.int .i64 k,.int .u64 n,.slice ba bl bc,.slice ia il ic]] w fun e w'=>e=.returned (.tuple #[.int .u8 x.kind,.int .u64 (xi x)])∧Below w.heap.size w w':=by
 obtain⟨rfl,rfl,rfl,rfl,hx⟩:=hx;obtain⟨_,_,hn,zH,zG,rN,pI⟩:=hx.bounds;have hb:x.bytes.length≤9223372036854775807:=by omega
 have hi:x.items.length≤9223372036854775807:=by omega
 clear zH zG rN pI hx;have HN:=Hh hn;clear hn
 by_cases h2:x.kind=2
 ·have e:Hid (Ending.returned (.tuple #[.int .u8 2,.int .u64 x.bytes.length])=Ending.returned (.tuple #[.int .u8 x.kind,.int .u64 (xi x)])):=by simp[Hid,xi,h2]
  go_enter Tryz.func122,Tryz.ntmps122
  go_wp2
  go_region
  all_goals go_wp2
  all_goals go_ret2
  all_goals exact⟨e.out,(zq w _).drew⟩
 by_cases h3:x.kind=3
 ·have e:Hid (Ending.returned (.tuple #[.int .u8 3,.int .u64 x.bytes.length])=Ending.returned (.tuple #[.int .u8 x.kind,.int .u64 (xi x)])):=by simp[Hid,xi,h3]
  clear h2;go_enter Tryz.func122,Tryz.ntmps122
  go_wp2
  go_region
  all_goals go_wp2
  all_goals go_ret2
  all_goals exact⟨e.out,(zq w _).drew⟩
 by_cases h4:x.kind=4
 ·have e:Hid (Ending.returned (.tuple #[.int .u8 4,.int .u64 x.items.length])=Ending.returned (.tuple #[.int .u8 x.kind,.int .u64 (xi x)])):=by simp[Hid,xi,h4]
  clear h2 h3;go_enter Tryz.func122,Tryz.ntmps122
  go_wp2
  go_region
  all_goals go_wp2
  all_goals go_ret2
  all_goals exact⟨e.out,(zq w _).drew⟩
 by_cases h5:x.kind=5
 ·have e:Hid (Ending.returned (.tuple #[.int .u8 5,.int .u64 ((x.items.length:Int)/2)])=Ending.returned (.tuple #[.int .u8 x.kind,.int .u64 (xi x)])):=by simp[Hid,xi,h5]
  clear h2 h3 h4;go_enter Tryz.func122,Tryz.ntmps122
  go_wp2
  go_region
  all_goals go_wp2
  all_goals go_ret2
  all_goals exact⟨e.out,(zq w _).drew⟩
 have e:Hid (Ending.returned (.tuple #[.int .u8 x.kind,.int .u64 x.n])=Ending.returned (.tuple #[.int .u8 x.kind,.int .u64 (xi x)])):=by simp[Hid,xi,h2,h3,h4,h5]
 have b2:(x.kind==2)=false:=by simp[h2]
 have b3:(x.kind==3)=false:=by simp[h3]
 have b4:(x.kind==4)=false:=by simp[h4]
 have b5:(x.kind==5)=false:=by simp[h5]
 clear h2 h3 h4 h5;go_enter Tryz.func122,Tryz.ntmps122
 go_wp2
 go_region
 all_goals go_wp2
 all_goals go_ret2
 all_goals exact⟨e.out,(zq w _).drew⟩
def Sz (n v s x f:Nat):Prop:=s≤1∧v=s*32768+x*1024+f∧f<1024∧x≤31∧
 ((x=31∧f=0∧n=s*9223372036854775808+9218868437227405312)∨(x=0∧f=0∧n=s*9223372036854775808)∨
  (1≤x∧x≤30∧n=s*9223372036854775808+(x+1008)*4503599627370496+f*4398046511104)∨
  (x=0∧∃ t full,t<10∧2 ^ t≤f∧f<2 ^ (t+1)∧full=f*2 ^ (52-t)∧4503599627370496≤full∧n=s*9223372036854775808+(999+t)*4503599627370496+(full-4503599627370496)))
theorem o4 (n v s x f:Nat) (h1:s≤1) (h2:v=s*32768+x*1024+f) (h3:f<1024) (h4:x≤31)
  (h:(x=31∧f=0∧n=s*9223372036854775808+9218868437227405312)∨(x=0∧f=0∧n=s*9223372036854775808)∨
  (1≤x∧x≤30∧n=s*9223372036854775808+(x+1008)*4503599627370496+f*4398046511104)∨
  (x=0∧∃ t full,t<10∧2 ^ t≤f∧f<2 ^ (t+1)∧full=f*2 ^ (52-t)∧4503599627370496≤full∧n=s*9223372036854775808+(999+t)*4503599627370496+(full-4503599627370496))):∃ s x f,Sz n v s x f :=
 ⟨s,x,f,h1,h2,h3,h4,h⟩
theorem jE {n v:Nat}(hn:n<18446744073709551616) (h:xL n 5 10=some v):∃ s x f,Sz n v s x f:=by
 obtain⟨ex,vW⟩:∃ ex,n/4503599627370496%2048=ex:=⟨_,rfl⟩
 obtain⟨mx,lg⟩:∃ mx,n%4503599627370496=mx:=⟨_,rfl⟩
 obtain⟨sg,bR⟩:∃ sg,n/9223372036854775808=sg:=⟨_,rfl⟩
 have vT:sg≤1:=by omega
 have wd:n=sg*9223372036854775808+ex*4503599627370496+mx:=by omega
 have Mg:ex<2048:=by omega
 have pJ:mx<4503599627370496:=by omega
 rw[xL]at h
 simp only[Nat.reducePow,Nat.reduceSub,Nat.reduceAdd,Nat.reduceMul,vW,lg,bR]at h
 clear vW lg bR hn
 split at h
 ·rename_i q1
  split at h
  ·rename_i q2
   injection h with h
   subst q1 q2
   exact o4 _ _ _ _ _ vT (by omega) (by omega) (by omega) (.inl (And.intro rfl (And.intro rfl (by omega))))
  cases h
 rename_i c1
 split at h
 ·rename_i q1
  split at h
  ·rename_i q2
   injection h with h
   subst q1 q2
   exact o4 _ _ _ 0 0 vT (by omega) (by omega) (by omega) (.inr (.inl (And.intro rfl (And.intro rfl (by rw[wd,Nat.zero_mul];simp only[Nat.add_zero])))))
  cases h
 rename_i c2
 split at h
 ·cases h
 rename_i c3
 split at h
 ·rename_i c4
  split at h
  ·rename_i c5
   injection h with h
   obtain⟨x,hx⟩:∃ x,ex=x+1008:=⟨ex-1008,by omega⟩
   obtain⟨f,hf⟩:∃ f,mx=f*4398046511104:=⟨mx/4398046511104,by omega⟩
   subst hx hf
   exact o4 _ _ _ x f vT (by omega) (by omega) (by omega) (.inr (.inr (.inl (And.intro (by omega) (And.intro (by omega) wd)))))
  cases h
 rename_i c4
 split at h
 ·cases h
 rename_i c5
 split at h
 ·rename_i c6
  injection h with h
  obtain⟨t,ht⟩:∃ t,ex=999+t:=⟨ex-999,by omega⟩
  have aT:43+(1023-ex-15)=52-t:=by omega
  rw[aT]at h c6;obtain⟨f,hf⟩:∃ f,(mx+4503599627370496)/2 ^ (52-t)=f:=⟨_,rfl⟩
  have sk:mx+4503599627370496=f*2 ^ (52-t):=by
   rw[← hf,Nat.div_mul_cancel (Nat.dvd_of_mod_eq_zero c6)]
  have tt:0<2 ^ (52-t):=Nat.two_pow_pos _
  have e1:2 ^ t*2 ^ (52-t)=4503599627370496:=by
   rw[← Nat.pow_add,show t+(52-t)=52 by omega]
  have e2:2 ^ (t+1)*2 ^ (52-t)=9007199254740992:=by
   rw[← Nat.pow_add,show t+1+(52-t)=53 by omega]
  have b1:2 ^ t≤f:=by
   apply Nat.le_of_mul_le_mul_right _ tt
   omega
  have b2:f<2 ^ (t+1):=by
   apply Nat.lt_of_mul_lt_mul_right (a:=2 ^ (52-t))
   omega
  have b3:2 ^ (t+1)≤2 ^ 10:=Nat.pow_le_pow_right (by omega) (by omega)
  simp only[Nat.reducePow]at b3
  rw[hf]at h;have Vq:n=sg*9223372036854775808+(999+t)*4503599627370496+(mx+4503599627370496-4503599627370496):=by rw[wd,ht,Nat.add_sub_cancel]
  exact o4 _ _ _ 0 f vT (by omega) (by omega) (by omega) (.inr (.inr (.inr (And.intro rfl ⟨t,mx+4503599627370496,by omega,b1,b2,sk,by omega,Vq⟩))))
 cases h
def qT (n v s x f:Nat):Prop:=s≤1∧v=s*2147483648+x*8388608+f∧f<8388608∧x≤255∧
 ((x=255∧f=0∧n=s*9223372036854775808+9218868437227405312)∨(x=0∧f=0∧n=s*9223372036854775808)∨
  (1≤x∧x≤254∧n=s*9223372036854775808+(x+896)*4503599627370496+f*536870912)∨
  (x=0∧∃ t full,t<23∧2 ^ t≤f∧f<2 ^ (t+1)∧full=f*2 ^ (52-t)∧4503599627370496≤full∧n=s*9223372036854775808+(874+t)*4503599627370496+(full-4503599627370496)))
theorem o7 (n v s x f:Nat) (h1:s≤1) (h2:v=s*2147483648+x*8388608+f) (h3:f<8388608) (h4:x≤255)
  (h:(x=255∧f=0∧n=s*9223372036854775808+9218868437227405312)∨(x=0∧f=0∧n=s*9223372036854775808)∨
  (1≤x∧x≤254∧n=s*9223372036854775808+(x+896)*4503599627370496+f*536870912)∨
  (x=0∧∃ t full,t<23∧2 ^ t≤f∧f<2 ^ (t+1)∧full=f*2 ^ (52-t)∧4503599627370496≤full∧n=s*9223372036854775808+(874+t)*4503599627370496+(full-4503599627370496))):∃ s x f,qT n v s x f :=
 ⟨s,x,f,h1,h2,h3,h4,h⟩
theorem jF {n v:Nat}(hn:n<18446744073709551616) (h:xL n 8 23=some v):∃ s x f,qT n v s x f:=by
 obtain⟨ex,vW⟩:∃ ex,n/4503599627370496%2048=ex:=⟨_,rfl⟩
 obtain⟨mx,lg⟩:∃ mx,n%4503599627370496=mx:=⟨_,rfl⟩
 obtain⟨sg,bR⟩:∃ sg,n/9223372036854775808=sg:=⟨_,rfl⟩
 have vT:sg≤1:=by omega
 have wd:n=sg*9223372036854775808+ex*4503599627370496+mx:=by omega
 have Mg:ex<2048:=by omega
 have pJ:mx<4503599627370496:=by omega
 rw[xL]at h
 simp only[Nat.reducePow,Nat.reduceSub,Nat.reduceAdd,Nat.reduceMul,vW,lg,bR]at h
 clear vW lg bR hn
 split at h
 ·rename_i q1
  split at h
  ·rename_i q2
   injection h with h
   subst q1 q2
   exact o7 _ _ _ _ _ vT (by omega) (by omega) (by omega) (.inl (And.intro rfl (And.intro rfl (by omega))))
  cases h
 rename_i c1
 split at h
 ·rename_i q1
  split at h
  ·rename_i q2
   injection h with h
   subst q1 q2
   exact o7 _ _ _ 0 0 vT (by omega) (by omega) (by omega) (.inr (.inl (And.intro rfl (And.intro rfl (by rw[wd,Nat.zero_mul];simp only[Nat.add_zero])))))
  cases h
 rename_i c2
 split at h
 ·cases h
 rename_i c3
 split at h
 ·rename_i c4
  split at h
  ·rename_i c5
   injection h with h
   obtain⟨x,hx⟩:∃ x,ex=x+896:=⟨ex-896,by omega⟩
   obtain⟨f,hf⟩:∃ f,mx=f*536870912:=⟨mx/536870912,by omega⟩
   subst hx hf
   exact o7 _ _ _ x f vT (by omega) (by omega) (by omega) (.inr (.inr (.inl (And.intro (by omega) (And.intro (by omega) wd)))))
  cases h
 rename_i c4
 split at h
 ·cases h
 rename_i c5
 split at h
 ·rename_i c6
  injection h with h
  obtain⟨t,ht⟩:∃ t,ex=874+t:=⟨ex-874,by omega⟩
  have aT:30+(1023-ex-127)=52-t:=by omega
  rw[aT]at h c6;obtain⟨f,hf⟩:∃ f,(mx+4503599627370496)/2 ^ (52-t)=f:=⟨_,rfl⟩
  have sk:mx+4503599627370496=f*2 ^ (52-t):=by
   rw[← hf,Nat.div_mul_cancel (Nat.dvd_of_mod_eq_zero c6)]
  have tt:0<2 ^ (52-t):=Nat.two_pow_pos _
  have e1:2 ^ t*2 ^ (52-t)=4503599627370496:=by
   rw[← Nat.pow_add,show t+(52-t)=52 by omega]
  have e2:2 ^ (t+1)*2 ^ (52-t)=9007199254740992:=by
   rw[← Nat.pow_add,show t+1+(52-t)=53 by omega]
  have b1:2 ^ t≤f:=by
   apply Nat.le_of_mul_le_mul_right _ tt
   omega
  have b2:f<2 ^ (t+1):=by
   apply Nat.lt_of_mul_lt_mul_right (a:=2 ^ (52-t))
   omega
  have b3:2 ^ (t+1)≤2 ^ 23:=Nat.pow_le_pow_right (by omega) (by omega)
  simp only[Nat.reducePow]at b3
  rw[hf]at h;have Vq:n=sg*9223372036854775808+(874+t)*4503599627370496+(mx+4503599627370496-4503599627370496):=by rw[wd,ht,Nat.add_sub_cancel]
  exact o7 _ _ _ 0 f vT (by omega) (by omega) (by omega) (.inr (.inr (.inr (And.intro rfl ⟨t,mx+4503599627370496,by omega,b1,b2,sk,by omega,Vq⟩))))
 cases h
structure Fits (x:Itm) (lv:Nat):Prop where
 good:Good x lv
 small:Small x
 nums:Nums x
 cnt:cnt x≤256
theorem Fits.of {x:Itm}(h:zX x=true) (hn:Nums x):Fits x 0:=by
 rw[yp]at h
 exact⟨h.1,h.1.small h.2.2,hn,h.2.1⟩
theorem Small.items {x:Itm}(h:Small x):tr x.items:=by cases x;rw[Small]at h;exact h.2
theorem Small.bytes {x:Itm}(h:Small x):x.bytes.length≤4096:=by cases x;rw[Small]at h;exact h.1
theorem eu {x:Itm}{lv:Nat}(h:Good x lv) (hk:4≤x.kind∧x.kind≤6):vk x lv=true:=by
 rcases yU h.node with ⟨h1,_⟩ | ⟨_,h1⟩
 ·rw[zL]at h1;omega
 exact h1
theorem gL {n t:Nat}(h1:2 ^ t≤n) (h2:n<2 ^ (t+1)):n.log2=t:=by
 have hn:n≠0:=by have:=Nat.two_pow_pos t;omega
 have a:=(Nat.le_log2 hn).2 h1;have b:=(Nat.log2_lt hn).2 h2
 omega
theorem nB (neg:Bool) (q d:Nat) (h:d≤(q*2 ^ d).log2+2):Ieee.Toward.even.cut neg (q*2 ^ d) d=q:=by
 have hg:(1:Nat) <<< min d ((q*2 ^ d).log2+2)=2 ^ d:=by rw[Nat.min_eq_left h,Nat.shiftLeft_eq,Nat.one_mul]
 have hp:0<2 ^ d:=Nat.two_pow_pos d;have h1:q*2 ^ d/2 ^ d=q:=Nat.mul_div_cancel _ hp;have h2:q*2 ^ d%2 ^ d=0:=Nat.mul_mod_left _ _
 unfold Ieee.Toward.cut
 simp only[hg,h1,h2]
 have e1:decide (2 ^ d<2*0)=false:=by simp
 have e2:(2 ^ d==2*0)=false:=by rw[beq_eq_false_iff_ne];omega
 rw[e1,e2]
 simp
theorem jI {r:Nat}(hr:r<4294967296) (hn:(Ieee.single.read r).isNaN=false):∃ n s x f,n<18446744073709551616∧qT n r s x f:=by
 obtain⟨s,hs⟩:∃ s,r/2147483648=s:=⟨_,rfl⟩
 obtain⟨x,hx⟩:∃ x,r/8388608%256=x:=⟨_,rfl⟩
 obtain⟨f,hf⟩:∃ f,r%8388608=f:=⟨_,rfl⟩
 have vT:s≤1:=by omega
 have jn:x≤255:=by omega
 have Ys:f<8388608:=by omega
 have hv:r=s*2147483648+x*8388608+f:=by omega
 by_cases h1:x=255
 ·by_cases h0:f=0
  ·exact⟨s*9223372036854775808+9218868437227405312,s,x,f,by omega,vT,by omega,by omega,by omega,.inl ⟨h1,h0,rfl⟩⟩
  exfalso
  have e1:Ieee.single.signWeight=2147483648:=rfl;have e2:Ieee.single.binade=8388608:=rfl;have e3:Ieee.single.infRung=2139095040:=rfl
  unfold Ieee.Format.read at hn
  rw[e1,e2,e3]at hn
  simp only[show ¬ r%2147483648<8388608 by omega,show ¬ r%2147483648<2139095040 by omega,show ¬ r%2147483648=2139095040 by omega,if_false]at hn
  cases hn
 by_cases h2:x=0
 ·by_cases h0:f=0
  ·exact⟨s*9223372036854775808,s,x,f,by omega,vT,by omega,by omega,by omega,.inr (.inl ⟨h2,h0,rfl⟩)⟩
  have a1:2 ^ f.log2≤f:=Nat.log2_self_le h0;have a2:f<2 ^ (f.log2+1):=Nat.lt_log2_self;have a3:f.log2<23:=(Nat.log2_lt h0).2 (by simpa using Ys)
  generalize f.log2=t at a1 a2 a3
  have e1:2 ^ t*2 ^ (52-t)=4503599627370496:=by
   rw[← Nat.pow_add,show t+(52-t)=52 by omega]
  have e2:2 ^ (t+1)*2 ^ (52-t)=9007199254740992:=by
   rw[← Nat.pow_add,show t+1+(52-t)=53 by omega]
  have b1:=Nat.mul_le_mul_right (2 ^ (52-t)) a1;have b2:=Nat.mul_lt_mul_of_pos_right a2 (Nat.two_pow_pos (52-t))
  refine⟨s*9223372036854775808+(874+t)*4503599627370496+(f*2 ^ (52-t)-4503599627370496),s,x,f,by omega,vT,by omega,by omega,by omega,.inr (.inr (.inr ⟨h2,t,_,a3,a1,a2,rfl,by omega,rfl⟩))⟩
 exact⟨s*9223372036854775808+(x+896)*4503599627370496+f*536870912,s,x,f,by omega,vT,by omega,by omega,by omega,.inr (.inr (.inl ⟨by omega,by omega,rfl⟩))⟩
theorem dC (s r:Nat) (hs:s≤1):Ieee.double.word (s%2==1) r=s*9223372036854775808+r:=by
 have e:Ieee.double.signWeight=9223372036854775808:=rfl
 unfold Ieee.Format.word
 rcases(by omega:s=0∨s=1) with rfl | rfl <;> simp[e]
theorem gX (s r:Nat) (hs:s≤1):Ieee.single.word (s%2==1) r=s*2147483648+r:=by
 have e:Ieee.single.signWeight=2147483648:=rfl
 unfold Ieee.Format.word
 rcases(by omega:s=0∨s=1) with rfl | rfl <;> simp[e]
theorem d9 {n v s x f:Nat}(h:qT n v s x f):Ieee.single.read v=if x=255 then .infinity (s%2==1) else if x=0 then .number (s%2==1) f (-149) else .number (s%2==1) (8388608+f) ((x:Int)-150):=by
 obtain⟨a1,a2,a3,a4,a5⟩:=h;have e1:Ieee.single.signWeight=2147483648:=rfl;have e2:Ieee.single.binade=8388608:=rfl;have e3:Ieee.single.infRung=2139095040:=rfl;have e4:Ieee.single.leastPlace = -149:=rfl;have hd:v/2147483648=s:=by omega
 have hm:v%2147483648=x*8388608+f:=by omega
 unfold Ieee.Format.read
 rw[e1,e2,e3,e4,hd,hm]
 simp only
 by_cases h0:x=0
 ·rw[if_pos (by omega),if_neg (by omega),if_pos h0,h0];simp
 rw[if_neg (by omega)]
 by_cases h1:x=255
 ·have:f=0:=by omega
  rw[if_neg (by omega),if_pos (by omega),if_pos h1]
 rw[if_pos (by omega),if_neg h1,if_neg h0];congr 1
 ·omega
 omega
theorem gU {n v s x f:Nat}(h:qT n v s x f):∃ e m,e≤2047∧m<4503599627370496∧n=s*9223372036854775808+e*4503599627370496+m∧
  (x=255→e=2047∧m=0)∧(x=0∧f=0→e=0∧m=0)∧(1≤x∧x≤254→e=x+896∧m=f*536870912)∧(x=0∧0<f→∃ t,t<23∧2 ^ t≤f∧f<2 ^ (t+1)∧e=874+t∧m+4503599627370496=f*2 ^ (52-t))∧
  Ieee.double.read n=if e=2047 then .infinity (s%2==1) else if e=0 then .number (s%2==1) m (-1074) else .number (s%2==1) (4503599627370496+m) ((e:Int)-1075):=by
 obtain⟨a1,a2,a3,a4,a5⟩:=h
 have key:∀ e m,e≤2047→m<4503599627370496→(e=2047→m=0)→n=s*9223372036854775808+e*4503599627370496+m→Ieee.double.read n=if e=2047 then .infinity (s%2==1) else if e=0 then .number (s%2==1) m (-1074) else .number (s%2==1) (4503599627370496+m) ((e:Int)-1075):=by
  intro e m he hm h7 hn
  have e1:Ieee.double.signWeight=9223372036854775808:=rfl;have e2:Ieee.double.binade=4503599627370496:=rfl;have e3:Ieee.double.infRung=9218868437227405312:=rfl;have e4:Ieee.double.leastPlace = -1074:=rfl;have hd:n/9223372036854775808=s:=by omega
  have dt:n%9223372036854775808=e*4503599627370496+m:=by omega
  unfold Ieee.Format.read
  rw[e1,e2,e3,e4,hd,dt]
  simp only
  by_cases h0:e=0
  ·rw[if_pos (by omega),if_neg (by omega),if_pos h0,h0];simp
  rw[if_neg (by omega)]
  by_cases h1:e=2047
  ·have:=h7 h1;rw[if_neg (by omega),if_pos (by omega),if_pos h1]
  rw[if_pos (by omega),if_neg h1,if_neg h0];congr 1
  ·omega
  omega
 rcases a5 with ⟨c1,c2,c3⟩ | ⟨c1,c2,c3⟩ | ⟨c1,c2,c3⟩ | ⟨c1,t,full,c2,c3,c4,c5,c6,c7⟩
 ·exact⟨2047,0,by omega,by omega,by omega,fun _=>⟨rfl,rfl⟩,by omega,by omega,by omega,key 2047 0 (by omega) (by omega) (fun _=>rfl) (by omega)⟩
 ·have C3:n=s*9223372036854775808+0*4503599627370496+0:=by rw[c3];simp only[Nat.zero_mul,Nat.add_zero]
  have C3:=Hh C3;clear c3;have x1:x≠255:=by omega
  have x3:¬ (1≤x∧x≤254):=by omega
  have x4:¬ (x=0∧0<f):=by omega
  exact⟨0,0,by omega,by omega,C3.out,fun h=>absurd h x1,fun _=>⟨rfl,rfl⟩,fun h=>absurd h x3,fun h=>absurd h x4,key 0 0 (by omega) (by omega) (by omega) C3.out⟩
 ·have C3:=Hh c3;clear c3;have t1:x+896≤2047:=by omega
  have t2:x+896≠2047:=by omega
  have m1:f*536870912<4503599627370496:=by omega
  have x1:x≠255:=by omega
  have x2:x≠0:=by omega
  exact⟨x+896,f*536870912,t1,m1,C3.out,fun h=>absurd h x1,fun h=>absurd h.1 x2,fun _=>⟨rfl,rfl⟩,fun h=>absurd h.1 x2,key _ _ t1 m1 (fun h=>absurd h t2) C3.out⟩
 have hp:0<f:=by have:=Nat.two_pow_pos t;omega
 have e2:2 ^ (t+1)*2 ^ (52-t)=9007199254740992:=by
  rw[← Nat.pow_add,show t+1+(52-t)=53 by omega]
 have b2:=Nat.mul_lt_mul_of_pos_right c4 (Nat.two_pow_pos (52-t));rw[e2,← c5]at b2;have C7:=Hh c7;clear c7;have m1:full-4503599627370496<4503599627370496:=by clear a2;omega
 have m2:full-4503599627370496+4503599627370496=f*2 ^ (52-t):=by rw[← c5];clear a2;omega
 have t1:874+t≤2047:=by omega
 have t2:874+t≠2047:=by omega
 have x1:x≠255:=by omega
 have x2:¬ (x=0∧f=0):=by omega
 have x3:¬ (1≤x∧x≤254):=by omega
 exact⟨874+t,full-4503599627370496,t1,m1,C7.out,fun h=>absurd h x1,fun h=>absurd h x2,fun h=>absurd h x3,fun _=>⟨t,c2,c3,c4,rfl,m2⟩,key _ _ t1 m1 (fun h=>absurd h t2) C7.out⟩
theorem bA {n v s x f:Nat}(h:qT n v s x f):floatToFloatBits .f32 v .f64=some n:=by
 have hr:=d9 h;obtain⟨e,m,he,hm,hn,g1,g2,g3,g4,hd⟩:=gU h;obtain⟨a1,a2,a3,a4,_⟩:=h;have e1:Ieee.double.fractionBits=52:=rfl;have e2:Ieee.double.binade=4503599627370496:=rfl;have e3:Ieee.double.infRung=9218868437227405312:=rfl;have e4:Ieee.double.leastPlace = -1074:=rfl
 have hw:Ieee.double.write (Ieee.single.read v)=n:=by
  rw[hr]
  by_cases h1:x=255
  ·obtain⟨rfl,rfl⟩:=g1 h1;rw[if_pos h1];show Ieee.double.word _ Ieee.double.infRung=n
   rw[dC _ _ a1,e3];omega
  rw[if_neg h1]
  have near:∀ (mag:Nat) (pl:Int) (t:Nat),t≤52→2 ^ t≤mag→mag<2 ^ (t+1)→-149≤pl→pl≤104→e=(pl+t+1023).toNat→mag*2 ^ (52-t)=4503599627370496+m→Ieee.double.nearest (s%2==1) mag pl=n:=by
   intro mag pl t ht b1 b2 p1 p2 he' dt
   have hl:=gL b1 b2;have h0:mag≠0:=by have:=Nat.two_pow_pos t;omega
   unfold Ieee.Format.nearest
   rw[if_neg h0,hl,e1,e2,e3,e4];have fQ:max (pl+(t:Int)-(52:Nat)) (-1074)=pl+t-52:=by omega
   simp only[fQ]
   rw[show(pl-(pl+(t:Int)-52)).toNat=52-t by omega,show((pl+(t:Int)-52)-pl).toNat=0 by omega,Nat.shiftLeft_eq,dt];have hc:=nB (s%2==1) (4503599627370496+m) 0 (by omega);rw[Nat.pow_zero,Nat.mul_one]at hc;rw[hc,dC _ _ a1,Nat.min_eq_left (by omega)]
   omega
  by_cases h2:x=0
  ·rw[if_pos h2]
   by_cases h3:f=0
   ·obtain⟨rfl,rfl⟩:=g2 ⟨h2,h3⟩;subst h3;show Ieee.double.nearest _ 0 _=n
    unfold Ieee.Format.nearest
    rw[if_pos rfl,dC _ _ a1];omega
   obtain⟨t,t1,t2,t3,t4,t5⟩:=g4 ⟨h2,by omega⟩
   exact near f (-149) t (by omega) t2 t3 (by omega) (by omega) (by omega) (by omega)
  rw[if_neg h2];obtain⟨k1,k2⟩:=g3 ⟨by omega,by omega⟩
  refine near (8388608+f) ((x:Int)-150) 23 (by omega) (by simp) (by simp;omega) (by omega) (by omega) (by omega) ?_
  simp only[Nat.reduceSub,Nat.reducePow]
  omega
 unfold floatToFloatBits
 rw[if_neg (by decide)];show(match Ieee.single.read v with | .nan _ _=>none | .infinity s=>some (Ieee.double.write (.infinity s)) | .number s m e=>if(Ieee.double.read (Ieee.double.write (.number s m e))).isInfinity then none else some (Ieee.double.write (.number s m e)))=some n
 cases hq:Ieee.single.read v with
 | nan a b =>
  rw[hq]at hr
  split at hr
  ·cases hr
  split at hr <;> cases hr
 | infinity q=>simp only;rw[← hq,hw]
 | number a b c =>
 simp only
 rw[← hq,hw]
 have hx:x≠255:=by
  intro h1
  rw[hq,if_pos h1]at hr
  cases hr
 have Ff:e≠2047:=by
  by_cases h2:x=0
  ·by_cases h3:f=0
   ·have:=g2 ⟨h2,h3⟩;omega
   obtain⟨t,t1,t2,t3,t4,t5⟩:=g4 ⟨h2,by omega⟩;omega
  have:=g3 ⟨by omega,by omega⟩;omega
 rw[hd,if_neg Ff]
 by_cases h0:e=0
 ·rw[if_pos h0];rfl
 rw[if_neg h0];rfl
theorem aw {n v s x f:Nat}(h:qT n v s x f):floatToFloatBits .f64 n .f32=some v:=by
 have hr:=d9 h;obtain⟨e,m,he,hm,hn,g1,g2,g3,g4,hd⟩:=gU h;obtain⟨a1,a2,a3,a4,_⟩:=h;have e1:Ieee.single.fractionBits=23:=rfl;have e2:Ieee.single.binade=8388608:=rfl;have e3:Ieee.single.infRung=2139095040:=rfl;have e4:Ieee.single.leastPlace = -149:=rfl
 have hw:Ieee.single.write (Ieee.double.read n)=v:=by
  rw[hd]
  by_cases h1:x=255
  ·obtain⟨h5,h6⟩:=g1 h1;rw[if_pos h5];show Ieee.single.word _ Ieee.single.infRung=v
   rw[gX _ _ a1,e3]
   omega
  by_cases h2:x=0
  ·by_cases h3:f=0
   ·obtain⟨h5,h6⟩:=g2 ⟨h2,h3⟩;rw[if_neg (by omega),if_pos h5,h6];show Ieee.single.nearest _ 0 _=v
    unfold Ieee.Format.nearest
    rw[if_pos rfl,gX _ _ a1];omega
   obtain⟨t,t1,t2,t3,t4,t5⟩:=g4 ⟨h2,by omega⟩;rw[if_neg (by omega),if_neg (by omega)];show Ieee.single.nearest _ _ _=v
   have hl:(4503599627370496+m).log2=52:=gL (by simp) (by simp;omega)
   unfold Ieee.Format.nearest
   rw[if_neg (by omega),hl,e1,e2,e3,e4];have fQ:max ((e:Int)-1075+(52:Nat)-(23:Nat)) (-149) = -149:=by omega
   simp only[fQ]
   rw[show((e:Int)-1075 - -149).toNat=0 by omega,show(-149-((e:Int)-1075)).toNat=52-t by omega,Nat.shiftLeft_eq,Nat.pow_zero,Nat.mul_one,show 4503599627370496+m=f*2 ^ (52-t) by omega];rw[nB _ _ _ (by rw[← t5,Nat.add_comm m,hl];omega),gX _ _ a1,Nat.min_eq_left (by omega)];rw[a2,h2,show((-149:Int) - -149).toNat=0 from rfl]
   simp only[Nat.zero_mul,Nat.zero_add,Nat.add_zero]
  obtain⟨k1,k2⟩:=g3 ⟨by omega,by omega⟩;rw[if_neg (by omega),if_neg (by omega)];show Ieee.single.nearest _ _ _=v
  have hl:(4503599627370496+m).log2=52:=gL (by simp) (by simp;omega)
  unfold Ieee.Format.nearest
  rw[if_neg (by omega),hl,e1,e2,e3,e4];have fQ:max ((e:Int)-1075+(52:Nat)-(23:Nat)) (-149)=(e:Int)-1046:=by omega
  simp only[fQ]
  have hq:4503599627370496+m=(8388608+f)*2 ^ 29:=by simp only[Nat.reducePow];omega
  rw[show((e:Int)-1075-((e:Int)-1046)).toNat=0 by omega,show(((e:Int)-1046)-((e:Int)-1075)).toNat=29 by omega,Nat.shiftLeft_eq,Nat.pow_zero,Nat.mul_one,hq];rw[nB _ _ _ (by rw[← hq,hl];omega),gX _ _ a1,Nat.min_eq_left (by omega)]
  omega
 unfold floatToFloatBits
 rw[if_neg (by decide)];show(match Ieee.double.read n with | .nan _ _=>none | .infinity s=>some (Ieee.single.write (.infinity s)) | .number s m e=>if(Ieee.single.read (Ieee.single.write (.number s m e))).isInfinity then none else some (Ieee.single.write (.number s m e)))=some v
 cases hq:Ieee.double.read n with
 | nan a b =>
  rw[hq]at hd
  split at hd
  ·cases hd
  split at hd <;> cases hd
 | infinity q=>simp only;rw[← hq,hw]
 | number a b c =>
 simp only
 rw[← hq,hw]
 have hx:x≠255:=by
  intro h1
  have:=g1 h1;rw[hq,if_pos this.1]at hd
  cases hd
 rw[hr,if_neg hx]
 by_cases h0:x=0
 ·rw[if_pos h0];rfl
 rw[if_neg h0];rfl
theorem mZ {n v s x f:Nat}(h:qT n v s x f):xL n 8 23=some v:=by
 obtain⟨e,m,he,hm,hn,g1,g2,g3,g4,hd⟩:=gU h;obtain⟨a1,a2,a3,a4,_⟩:=h;have k1:n/4503599627370496%2048=e:=by omega
 have k2:n%4503599627370496=m:=by omega
 have k3:n/9223372036854775808=s:=by omega
 rw[xL]
 simp only[Nat.reducePow,Nat.reduceSub,Nat.reduceAdd,Nat.reduceMul,k1,k2,k3]
 by_cases h1:x=255
 ·obtain⟨h5,h6⟩:=g1 h1;rw[if_pos h5,if_pos h6];congr 1;omega
 by_cases h2:x=0
 ·by_cases h3:f=0
  ·obtain⟨h5,h6⟩:=g2 ⟨h2,h3⟩;rw[if_neg (by omega),if_pos h5,if_pos h6];congr 1;omega
  obtain⟨t,t1,t2,t3,t4,t5⟩:=g4 ⟨h2,by omega⟩;rw[if_neg (by omega),if_neg (by omega),if_neg (by omega),if_neg (by omega),if_neg (by omega),show 30+(1023-e-127)=52-t by omega,t5,if_pos (Nat.mul_mod_left _ _),Nat.mul_div_cancel _ (Nat.two_pow_pos _)];congr 1;omega
 obtain⟨h5,h6⟩:=g3 ⟨by omega,by omega⟩;rw[if_neg (by omega),if_neg (by omega),if_neg (by omega),if_pos (by omega),if_pos (by omega)];congr 1;omega
def ie (v:Nat):Option Nat :=
 let s:=v/2147483648
 let e:=v/8388608%256
 let m:=v%8388608
 if e=255 then some (s*32768+31744) else if e=0 then(if m=0 then some (s*32768) else none)
 else if 113≤e∧e≤142 then(if m%8192=0 then some (s*32768+(e-112)*1024+m/8192) else none)
 else if 103≤e∧e<113 then(if(m+8388608)%2 ^ (126-e)=0 then some (s*32768+(m+8388608)/2 ^ (126-e)) else none) else none
theorem U3 {n v s x f:Nat}(h:qT n v s x f):ie v=xL n 5 10:=by
 obtain⟨e,m,he,hm,hn,g1,g2,g3,g4,hd⟩:=gU h;obtain⟨a1,a2,a3,a4,_⟩:=h;have k1:n/4503599627370496%2048=e:=by omega
 have k2:n%4503599627370496=m:=by omega
 have k3:n/9223372036854775808=s:=by omega
 have j1:v/2147483648=s:=by omega
 have j2:v/8388608%256=x:=by omega
 have j3:v%8388608=f:=by omega
 rw[xL,ie]
 simp only[Nat.reducePow,Nat.reduceSub,Nat.reduceAdd,Nat.reduceMul,k1,k2,k3,j1,j2,j3]
 by_cases h1:x=255
 ·obtain⟨h5,h6⟩:=g1 h1;rw[if_pos h5,if_pos h6,if_pos h1]
 by_cases h2:x=0
 ·by_cases h3:f=0
  ·obtain⟨h5,h6⟩:=g2 ⟨h2,h3⟩;rw[if_neg (by omega),if_pos h2,if_pos h3,if_neg (by omega),if_pos h5,if_pos h6]
  obtain⟨t,t1,t2,t3,t4,t5⟩:=g4 ⟨h2,by omega⟩;rw[if_neg (by omega),if_pos h2,if_neg h3,if_neg (by omega),if_neg (by omega),if_neg (by omega),if_neg (by omega),if_pos (by omega)]
 obtain⟨h5,h6⟩:=g3 ⟨by omega,by omega⟩;have n1:¬ e=2047:=by omega
 have n2:¬ e=0:=by omega
 rw[if_neg h1,if_neg h2,if_neg n1,if_neg n2]
 by_cases h7:143≤x
 ·have p1:¬ (113≤x∧x≤142):=by omega
  have p2:¬ (103≤x∧x<113):=by omega
  have p3:1023+31≤e+15:=by omega
  rw[if_neg p1,if_neg p2,if_pos p3]
 have p3:¬ (1023+31≤e+15):=by omega
 by_cases h8:113≤x
 ·have p1:113≤x∧x≤142:=by omega
  have p4:1023<e+15:=by omega
  rw[if_pos p1,if_neg p3,if_pos p4]
  by_cases h9:f%8192=0
  ·have p5:m%4398046511104=0:=by omega
   rw[if_pos h9,if_pos p5];obtain⟨q,rfl⟩:∃ q,f=8192*q:=⟨f/8192,by omega⟩
   have z1:m/4398046511104=8192*q/8192:=by omega
   have z2:e+15-1023=x-112:=by omega
   rw[z1,z2]
  have p5:¬ m%4398046511104=0:=by omega
  rw[if_neg h9,if_neg p5]
 have p1:¬ (113≤x∧x≤142):=by omega
 have p4:¬ 1023<e+15:=by omega
 rw[if_neg p1,if_neg p3,if_neg p4]
 by_cases h9:103≤x
 ·have p2:103≤x∧x<113:=by omega
  have p6:¬ 52<43+(1023-e-15):=by omega
  rw[if_pos p2,if_neg p6];have hs:43+(1023-e-15)=126-x+29:=by omega
  have hq:m+4503599627370496=(f+8388608)*2 ^ 29:=by simp only[Nat.reducePow];omega
  rw[hs,hq,Nat.pow_add,Nat.mul_mod_mul_right,Nat.mul_div_mul_right _ _ (Nat.two_pow_pos 29)]
  by_cases h10:(f+8388608)%2 ^ (126-x)=0
  ·have Q8:(f+8388608)%2 ^ (126-x)*2 ^ 29=0:=by rw[h10,Nat.zero_mul]
   rw[if_pos h10,if_pos Q8]
  have Q8:¬ (f+8388608)%2 ^ (126-x)*2 ^ 29=0:=by
   intro h
   have:=Nat.two_pow_pos 29
   rcases Nat.mul_eq_zero.1 h with h | h <;> omega
  rw[if_neg h10,if_neg Q8]
 have p2:¬ (103≤x∧x<113):=by omega
 have p6:52<43+(1023-e-15):=by omega
 rw[if_neg p2,if_pos p6]
def bC (n k:Nat):UInt8:=u8 (n/2 ^ (56-8*k))
theorem bV (n k:Nat):(#[.int .u8 ((n:Int)/2 ^ (56-8*k)%256)]:Array Value).toList=[bC n k].map zv:=by
 simp only[List.map_cons,List.map_nil,bC,xZ]
 simp
theorem ZC (n:Nat) (hn:n<18446744073709551616) (w:World) :
  Calls Tryz.prog 149 #[.int .u64 (n:Int)] w fun e w'=>∃ r,e=.returned r∧Fresh w (be8 n 8) r w':=by
 have HN:=Hh hn;clear hn;have hO:=OwnB.nil w w.heap.size;have hb:=Below.refl w.heap.size w;go_enter Tryz.func149,Tryz.ntmps149
 go_wp2_with fail
 go_loopw [3,4] (fun v3 v4 wr=>∃ (k:Nat) (VA:Option Addr) (vc:Nat),k≤8∧v4=.int .i64 (56-8*(k:Int))∧v3=.slice VA k vc∧OwnB wr w.heap.size (.slice VA k vc) (be8 n k)∧Below w.heap.size w wr) (fun _ v4 _=>(intOf v4+8).toNat)
 case atStart=>exact⟨0,none,0,by omega,rfl,rfl,hO,hb⟩
 case round =>
 obtain⟨k,VA,vc,hk,rfl,rfl,wG,yS⟩:=hrel
 by_cases zB:k<8
 ·have yR:=bV n k;have xn:=yS.alloc yS.size (.cells #[.int .u8 ((n:Int)/2 ^ (56-8*k)%256)] 5);have oP:=wG.alloc (.cells #[.int .u8 ((n:Int)/2 ^ (56-8*k)%256)] 5);have HC:=Hh yR;clear yR;go_wp2_with (at_builtin;refine zO ?_)
  refine zn rfl (.tmp 9) (.tmp 14) rfl w.heap.size _ _ rfl oP _ 1 _ [bC n k] rfl rfl (Src.new _ _ _ _ rfl _ HC.out) (by simp[uZ];omega) xn.size fun v' w7 wj xj hat7=>?_
  obtain⟨VA',vc',rfl,_⟩:=wj.form;have pB:(be8 n k++[bC n k]).length=k+1:=by simp[uZ]
  have dH:OwnB w7 w.heap.size (.slice VA' (k+1) vc') (be8 n (k+1)):=by
   rw[pB]at wj
   exact wj
  rw[pB];have vh:=xn.grown xj xn.size (fun q hq=>(oP.lt q hq).1);clear pB xj hat7 oP wG xn yS wj;go_wp2_with fail
  go_roundw
  case rel=>exact⟨k+1,VA',vc',by omega,by go_num,rfl,dH,vh⟩
  case measure=>simp[intOf];omega
 have Pb:k=8:=by omega
 subst Pb;go_wp2_with fail
 go_ret
 exact⟨_,rfl,wG,yS⟩
theorem pO (a k:Nat) (ha:a<4294967296) (hk:k<32):bits .and .u32 (a:Int) ((2 ^ k-1:Nat):Int)=((a%2 ^ k:Nat):Int):=by
 have:2 ^ k<2 ^ 32:=Nat.pow_lt_pow_right (by omega) hk
 simp only[Nat.reducePow]at this
 rw[u32_and_nat a (2 ^ k-1) ha (by omega),Nat.and_two_pow_sub_one_eq_mod]
theorem X6 (b k:Nat) (hb:b<2 ^ k) (hk:k<31):bits .or .u32 (b:Int) ((2 ^ k:Nat):Int)=((b+2 ^ k:Nat):Int):=by
 have h1:2 ^ k<2 ^ 31:=Nat.pow_lt_pow_right (by omega) hk
 simp only[Nat.reducePow]at h1
 rw[u32_or_nat _ _ (by omega) (by omega),Nat.or_comm];have:=Nat.two_pow_add_eq_or_of_lt hb 1;rw[Nat.mul_one]at this;rw[← this,Nat.add_comm]
theorem o9 (a k b:Nat) (hb:b<2 ^ k) (h:a*2 ^ k+b<65536):bits .or .u16 ((a*2 ^ k:Nat):Int) (b:Int)=((a*2 ^ k+b:Nat):Int):=by
 rw[u16_or_nat _ _ (by omega) (by omega),Nat.mul_comm,Nat.two_pow_add_eq_or_of_lt hb]
theorem Uk (q:Nat) (h:q<65536):IntKind.u16.wrap (q:Int)=(q:Int):=IntWalk.u16_in _ (by omega)
theorem ZA (v:Nat) (hv:v<4294967296) (w:World) :
  Calls Tryz.prog 151 #[.int .u32 (v:Int)] w
   fun e w'=>(∃ h:Nat,e=.returned (.tuple #[.int .u16 (h:Int),.bool (ie v).isSome])∧∀ x,ie v=some x→h=x)∧w=w':=by
 have A1:=pO (v/2 ^ 23) 8 (by omega) (by omega);have A2:=pO v 23 hv (by omega)
 simp only[Nat.reducePow,Nat.reduceSub]at A1 A2
 rw[Int.natCast_ediv]at A1;obtain⟨ex,vW⟩:∃ ex,v/8388608%256=ex:=⟨_,rfl⟩
 obtain⟨mx,lg⟩:∃ mx,v%8388608=mx:=⟨_,rfl⟩
 obtain⟨sg,bR⟩:∃ sg,v/2147483648=sg:=⟨_,rfl⟩
 have vT:sg≤1:=by omega
 have E:Hid (ie v=if ex=255 then some (sg*32768+31744) else if ex=0 then(if mx=0 then some (sg*32768) else none)
   else if 113≤ex∧ex≤142 then(if mx%8192=0 then some (sg*32768+(ex-112)*1024+mx/8192) else none)
   else if 103≤ex∧ex<113 then(if(mx+8388608)%2 ^ (126-ex)=0 then some (sg*32768+(mx+8388608)/2 ^ (126-ex)) else none) else none):=by
  rw[Hid,ie]
  simp only[vW,lg,bR]
 rw[vW]at A1;rw[lg]at A2;have Mg:ex<256:=by omega
 have pJ:mx<8388608:=by omega
 have A1':bits .and .u32 ((v:Int)/8388608) 255=(ex:Int):=A1;have A2':bits .and .u32 (v:Int) 8388607=(mx:Int):=A2;have K1:IntKind.i64.wrap (ex:Int)=(ex:Int):=IntWalk.i64_in _ (by omega)
 have KS:Hid (IntKind.u16.wrap ((v:Int)/2147483648*32768%4294967296)=((sg*2 ^ 15:Nat):Int)):=by
  have h:(v:Int)/2147483648*32768%4294967296=(sg:Int)*32768:=by omega
  simp only[Nat.reducePow]
  rw[Hid,h,IntWalk.u16_in _ (by omega)]
  omega
 clear hv vW lg bR A1 A2;go_enter Tryz.func151,Tryz.ntmps151
 go_wp2_with fail
 ·have h1:ex=255:=by
   have h:((ex:Int)==255)=true:=by assumption
   rw[beq_iff_eq]at h
   omega
  go_ret2
  have Pi:=o9 sg 15 31744 (by omega) (by omega)
  refine⟨⟨sg*32768+31744, ?_, ?_⟩,rfl⟩
  ·show Ending.returned (Value.tuple #[Value.int .u16 _,Value.bool _])=_
   rw[KS.out,E.out,if_pos h1];rw[show(31744:Int)=((31744:Nat):Int) from rfl,Pi];rfl
  intro x hx
  rw[E.out,if_pos h1]at hx;injection hx
 all_goals
  have h1:¬ ex=255:=by
   have h:((ex:Int)==255)=false:=by assumption
   rw[beq_eq_false_iff_ne]at h
   omega
  rw[if_neg h1]at E
 ·have h2:ex=0:=by
   have h:((ex:Int)==0)=true:=by assumption
   rw[beq_iff_eq]at h
   omega
  rw[if_pos h2]at E;go_ret2
  refine⟨⟨sg*32768, ?_, ?_⟩,rfl⟩
  ·show Ending.returned (Value.tuple #[Value.int .u16 _,Value.bool _])=_
   rw[KS.out,E.out]
   by_cases h:mx=0 <;> simp[h]
  intro x hx
  rw[E.out]at hx
  split at hx
  ·injection hx
  cases hx
 all_goals
  have h2:¬ ex=0:=by
   have h:((ex:Int)==0)=false:=by assumption
   rw[beq_eq_false_iff_ne]at h
   omega
  rw[if_neg h2]at E
 ·have h3:113≤ex∧ex≤142:=by omega
  rw[if_pos h3]at E;obtain⟨q,hq⟩:∃ q,ex-112=q:=⟨_,rfl⟩
  have Pl:((ex:Int)-112)*1024=((q*1024:Nat):Int):=by omega
  have dr:(mx:Int)/8192=((mx/8192:Nat):Int):=by omega
  have ha:=pO mx 13 (by omega) (by omega)
  simp only[Nat.reducePow,Nat.reduceSub]at ha
  have Yw:=o9 sg 15 (q*1024) (by omega) (by omega);have dV:=o9 (sg*2 ^ 5+q) 10 (mx/8192) (by omega) (by omega);rw[show(sg*2 ^ 5+q)*2 ^ 10=sg*2 ^ 15+q*1024 by omega]at dV;go_ret2
  refine⟨⟨sg*32768+q*1024+mx/8192, ?_, ?_⟩,rfl⟩
  ·show Ending.returned (Value.tuple #[Value.int .u16 _,Value.bool _])=_
   rw[KS.out,E.out,Pl,dr,Yw,dV];have dT:bits .and .u32 (mx:Int) 8191=((mx%8192:Nat):Int):=ha;rw[dT]
   by_cases h:mx%8192=0
   ·rw[if_pos h,h];rfl
   rw[if_neg h];have:(((mx%8192:Nat):Int)==0)=false:=by rw[beq_eq_false_iff_ne];omega
   rw[this];rfl
  intro x hx
  rw[E.out,hq]at hx
  split at hx
  ·injection hx
  cases hx
 ·have h3:¬ (113≤ex∧ex≤142):=by omega
  have h4:¬ (103≤ex∧ex<113):=by omega
  rw[if_neg h3,if_neg h4]at E;go_ret2
  refine⟨⟨0, ?_, ?_⟩,rfl⟩
  ·rw[E.out];rfl
  intro x hx
  rw[E.out]at hx
  cases hx
 ·have h3:¬ (113≤ex∧ex≤142):=by omega
  have h4:103≤ex∧ex<113:=by omega
  rw[if_neg h3,if_pos h4]at E;obtain⟨sh,aT⟩:∃ sh,126-ex=sh:=⟨_,rfl⟩
  obtain⟨full,sk⟩:∃ full,mx+8388608=full:=⟨_,rfl⟩
  have Ph:bits .or .u32 (mx:Int) 8388608=(full:Int):=by
   have:=X6 mx 23 (by omega) (by omega)
   simp only[Nat.reducePow]at this
   rw[← sk]
   exact this
  have hp:2 ^ sh<2 ^ 32:=Nat.pow_lt_pow_right (by omega) (by omega);have QV:0<2 ^ sh:=Nat.two_pow_pos sh
  simp only[Nat.reducePow]at hp
  have GE:(2:Int) ^ sh=((2 ^ sh:Nat):Int):=by rw[Int.natCast_pow];rfl
  have hw:((2:Int) ^ sh-1)%4294967296=((2 ^ sh-1:Nat):Int):=by rw[GE];omega
  have PW:(full:Int)/2 ^ sh=((full/2 ^ sh:Nat):Int):=by
   rw[Int.natCast_ediv,Int.natCast_pow];rfl
  have zB:full/2 ^ sh<2 ^ 15:=by
   apply Nat.div_lt_of_lt_mul
   have h1:2 ^ 14≤2 ^ sh:=Nat.pow_le_pow_right (by omega) (by omega);have h2:2 ^ 14*2 ^ 15≤2 ^ sh*2 ^ 15:=Nat.mul_le_mul_right _ h1
   simp only[Nat.reducePow,Nat.reduceMul]at h2⊢
   omega
  have Jc:full/2 ^ sh<32768:=zB;have Lj:IntKind.u16.wrap ((full/2 ^ sh:Nat):Int)=((full/2 ^ sh:Nat):Int):=Uk _ (by omega);have ho:=o9 sg 15 (full/2 ^ sh) zB (by simp only[Nat.reducePow];omega);have ha:=pO full sh (by omega) (by omega);go_ret2
  refine⟨⟨sg*32768+full/2 ^ sh, ?_, ?_⟩,rfl⟩
  ·show Ending.returned (Value.tuple #[Value.int .u16 _,Value.bool _])=_
   rw[KS.out,E.out,aT,Ph,hw,ha,PW,Lj,ho,sk]
   by_cases h:full%2 ^ sh=0
   ·rw[if_pos h,h];rfl
   rw[if_neg h];have:(((full%2 ^ sh:Nat):Int)==0)=false:=by rw[beq_eq_false_iff_ne];omega
   rw[this];rfl
  intro x hx
  rw[E.out,aT,sk]at hx
  split at hx
  ·injection hx
  cases hx
 have h3:¬ (113≤ex∧ex≤142):=by omega
 have h4:¬ (103≤ex∧ex<113):=by omega
 rw[if_neg h3,if_neg h4]at E;go_ret2
 refine⟨⟨0, ?_, ?_⟩,rfl⟩
 ·rw[E.out];rfl
 intro x hx
 rw[E.out]at hx
 cases hx
theorem Wj (n:Nat) (hN:isNaN n=false) (w:World):∃ r w',(convert 198 200 (.float .f64 n)).run Tryz.prog w=.ok (.float .f32 r) w'∧(w'=w∨w'=w.drew)∧r<4294967296∧(∀ s x f v,qT n v s x f→r=v):=by
 have hs:Tryz.prog.underlying 198=some (.float .f64):=Tryz.underlying198;have hd:Tryz.prog.underlying 200=some (.float .f32):=Tryz.underlying200
 cases hb:floatToFloatBits .f64 n .f32 with
 | some r =>
  have LX:(Tryz.prog.underlying 198).isSome=true:=by rw[hs];rfl
  refine⟨r,w,run_convert_float_float (P:=Tryz.prog) (w:=w) 198 200 .f64 .f32 n r LX hd hb,.inl rfl, ?_, ?_⟩
  ·unfold floatToFloatBits at hb
   rw[if_neg (by decide)]at hb;have zB:∀ d:Ieee.Datum,FloatKind.encode .f32 d<4294967296:=fun d=>Ieee.single.write_lt d
   split at hb
   ·cases hb
   ·injection hb with hb;rw[← hb];exact zB _
   split at hb
   ·cases hb
   injection hb with hb;rw[← hb];exact zB _
  intro s x f v h
  have:=aw h;rw[hb]at this;injection this
 | none =>
 have tO:=hb
 unfold floatToFloatBits at hb
 rw[if_neg (by decide)]at hb
 have wd:¬ (∃ a b,FloatKind.decode .f64 n=.nan a b):=by
  rintro⟨a,b,h⟩
  have:=fI n;rw[hN]at this;have h':Ieee.double.read n=.nan a b:=h;rw[h']at this
  cases this
 cases hq:FloatKind.decode .f64 n with
 | nan a b=>exact absurd ⟨a,b,hq⟩ wd
 | infinity a=>rw[hq]at hb;cases hb
 | number a b c =>
 rw[hq]at hb
 simp only at hb
 split at hb
 ·rename_i ho
  refine⟨(Question.floatToFloat n).cut (w.tape w.drawn (Question.floatToFloat n)),w.drew, ?_,.inr rfl, ?_, ?_⟩
  ·simp[convert,run_underlying hs,run_underlying hd,Conv.floatToFloat,hq,ho,Question.forced]
  ·show _%2 ^ 32<4294967296
   omega
  intro s x f v h
  have:=aw h;rw[tO]at this
  cases this
 cases hb
theorem Wk (r n:Nat) (hN:isNaN n=false) (hr:r<4294967296) (w:World):∃ m w',(convert 200 198 (.float .f32 r)).run Tryz.prog w=.ok (.float .f64 m) w'∧(w'=w∨w'=w.drew)∧(m=n→xL n 8 23=some r)∧(∀ s x f,qT n r s x f→m=n):=by
 have hs:Tryz.prog.underlying 200=some (.float .f32):=Tryz.underlying200;have hd:Tryz.prog.underlying 198=some (.float .f64):=Tryz.underlying198
 cases hn:(Ieee.single.read r).isNaN with
 | false =>
  obtain⟨m,s,x,f,_,hx⟩:=jI hr hn;have hw:=bA hx;have LX:(Tryz.prog.underlying 200).isSome=true:=by rw[hs];rfl
  refine⟨m,w,run_convert_float_float (P:=Tryz.prog) (w:=w) 200 198 .f32 .f64 r m LX hd hw,.inl rfl, ?_, ?_⟩
  ·rintro rfl
   exact mZ hx
  intro s' x' f' h
  have:=bA h;rw[hw]at this;injection this
 | true =>
 cases hq:FloatKind.decode .f32 r with
 | number a b c =>
  have h':Ieee.single.read r=.number a b c:=hq;rw[h']at hn;cases hn
 | infinity a =>
  have h':Ieee.single.read r=.infinity a:=hq;rw[h']at hn;cases hn
 | nan a b =>
 refine⟨(Question.nanConv .f64 r).cut (w.tape w.drawn (Question.nanConv .f64 r)),w.drew, ?_,.inr rfl, ?_, ?_⟩
 ·simp[convert,run_underlying hs,run_underlying hd,Conv.floatToFloat,hq,Question.forced]
 ·intro h
  exfalso
  have gh:isNaN ((Question.nanConv .f64 r).cut (w.tape w.drawn (Question.nanConv .f64 r)))=true:=by
   rw[iP];show(_%2*2 ^ 63+0x7ff0000000000000+1+_/2%(2 ^ 52-1))/2 ^ 52%2048=2047∧_
   generalize w.tape w.drawn (Question.nanConv .f64 r)=t
   show(t%2*2 ^ 63+0x7ff0000000000000+1+t/2%(2 ^ 52-1))/2 ^ 52%2048=2047∧(t%2*2 ^ 63+0x7ff0000000000000+1+t/2%(2 ^ 52-1))%2 ^ 52≠0
   generalize t/2=u
   have:t%2=0∨t%2=1:=by omega
   rcases this with h | h <;> rw[h] <;> simp only[Nat.reducePow,Nat.reduceSub,Nat.reduceMul,Nat.reduceAdd,Nat.zero_add] <;> omega
  rw[h,hN]at gh
  cases gh
 intro s x f h
 have:=d9 h;have h':Ieee.single.read r=.nan a b:=hq;rw[h']at this
 split at this
 ·cases this
 split at this <;> cases this
theorem Fresh.step_ {w w1 w2:World}{l:List UInt8}{r:Value}(hb:Below w.heap.size w w1) (h:Fresh w1 l r w2):Fresh w l r w2:=⟨h.own.more hb.size,hb.trans (h.2.mono hb.size)⟩
theorem jD {n:Nat}(hn:n<18446744073709551616) (h:xL n 8 23=none):xL n 5 10=none:=by
 cases h5:xL n 5 10 with
 | none=>rfl
 | some v =>
 obtain⟨s,x,f,a1,a2,a3,a4,a5⟩:=jE hn h5
 have done:∀ {x' f':Nat},qT n (s*2147483648+x'*8388608+f') s x' f'→False:=fun hx=>by
  rw[mZ hx]at h
  cases h
 rcases a5 with ⟨c1,c2,c3⟩ | ⟨c1,c2,c3⟩ | ⟨c1,c2,c3⟩ | ⟨c1,t,full,c2,c3,c4,c5,c6,c7⟩
 ·exact(done (x':=255) (f':=0) ⟨a1,rfl,by omega,by omega,.inl ⟨rfl,rfl,c3⟩⟩).elim
 ·exact(done (x':=0) (f':=0) ⟨a1,rfl,by omega,by omega,.inr (.inl ⟨rfl,rfl,c3⟩)⟩).elim
 ·have C3:n=s*9223372036854775808+(x+112+896)*4503599627370496+f*8192*536870912:=by
   rw[c3,Nat.mul_assoc f 8192,Nat.add_assoc x 112]
  have C:=Hh C3;clear c3 C3;have g1:f*8192<8388608:=by omega
  have g2:x+112≤255:=by omega
  have g3:1≤x+112:=by omega
  have g4:x+112≤254:=by omega
  exact(done (x':=x+112) (f':=f*8192) ⟨a1,rfl,g1,g2,.inr (.inr (.inl ⟨g3,g4,C.out⟩))⟩).elim
 have C:=Hh c7;clear c7
 have e1:full=f*2 ^ (23-t)*536870912:=by
  rw[c5,Nat.mul_assoc,show(536870912:Nat)=2 ^ 29 from rfl,← Nat.pow_add,show 23-t+29=52-t by omega]
 have e2:2 ^ (t+1)*2 ^ (52-t)=9007199254740992:=by
  rw[← Nat.pow_add,show t+1+(52-t)=53 by omega]
 have b2:=Nat.mul_lt_mul_of_pos_right c4 (Nat.two_pow_pos (52-t));rw[e2,← c5]at b2;obtain⟨q,hq⟩:∃ q,f*2 ^ (23-t)=q:=⟨_,rfl⟩
 rw[hq]at e1;have g0:8388608≤q∧q<16777216:=by clear a2;omega
 have g5:full-4503599627370496=(q-8388608)*536870912:=by clear a2;omega
 have g1:q-8388608<8388608:=by omega
 have g2:103+t≤255:=by omega
 have g3:1≤103+t:=by omega
 have g4:103+t≤254:=by omega
 have C3:n=s*9223372036854775808+(103+t+896)*4503599627370496+(q-8388608)*536870912:=by
  rw[C.out,g5,show 103+t+896=999+t by omega]
 exact(done (x':=103+t) (f':=q-8388608) ⟨a1,rfl,g1,g2,.inr (.inr (.inl ⟨g3,g4,C3⟩))⟩).elim
theorem jq (n:Nat) (hn:n<18446744073709551616) (w:World) :
  Calls Tryz.prog 120 #[.int .u64 (n:Int)] w fun e w'=>∃ r,e=.returned r∧Fresh w (yI n) r w':=by
 have r1:=qS n;have r2:=ZY n
 cases hN:isNaN n with
 | true =>
  rw[hN]at r2;have E:Hid (yI n=[u8 249,u8 126,u8 0]):=by rw[Hid,yI,if_pos hN]
  clear hN hn;go_enter Tryz.func120,Tryz.ntmps120
  go_wp2_with fail
  go_ret
  refine⟨_,rfl, ?_⟩
  rw[E.out]
  exact Fresh.lit w _ _ 3 rfl (by simp) rfl
 | false =>
 rw[hN]at r2;obtain⟨r,w1,rK,qe,hr,hv⟩:=Wj n hN w;obtain⟨m,w2,fc,fl,pJ,dq⟩:=Wk r n hN hr w1
 have hb:Below w.heap.size w w2:=by
  rcases qe with rfl | rfl <;> rcases fl with rfl | rfl
  ·exact Below.refl _ _
  ·exact(Below.refl _ _).drew
  ·exact(Below.refl _ _).drew
  exact(Below.refl _ _).drew.drew
 have r3:=eS m;have r4:=eR r;have jQ:=Hh hN
 cases h2:xL n 8 23 with
 | none =>
  have xg:m≠n:=fun h=>by rw[pJ h]at h2;cases h2
  have b1:((m:Int) != (n:Int))=true:=by rw[bne_iff_ne];omega
  have p1:(m=n)=False:=eq_false xg;have E:Hid (yI n=u8 251::be8 n 8):=by rw[Hid,yI,if_neg (by simp[hN]),jD hn h2,h2]
  have WD:=Hh (fun w3:World=>ZC n hn w3);have hO:=OwnB.lit w2 w.heap.size [u8 251] #[.int .u8 251] 1 rfl rfl hb.size (by simp);have zJ:=hb.alloc hb.size (.cells #[.int .u8 251] 5);clear pJ dq hv hN hn h2 xg qe fl hr;go_enter Tryz.func120,Tryz.ntmps120
  go_wp2_with fail
  refine(WD.out _).mono ?_
  rintro e w3 ⟨rr,rfl,hf⟩
  obtain⟨RA,rc,rfl,_⟩:=hf.own.form;have oP:=hO.below hf.2;have xn:=zJ.trans (hf.2.mono zJ.size);go_wp2_with (at_builtin;refine zO ?_)
  refine zn rfl (.tmp 21) (.tmp 23) rfl w.heap.size _ _ rfl oP RA _ rc (be8 n 8) rfl rfl hf.own.src (by simp[uZ]) xn.size fun v' w7 wj xj hat7=>?_
  have vh:=xn.grown xj xn.size (fun q hq=>(oP.lt q hq).1);clear xj hat7 oP hf;go_wp2_with fail
  go_ret
  exact⟨_,rfl,by rw[E.out];exact⟨wj,vh⟩⟩
 | some v =>
 obtain⟨s,x,f,hx⟩:=jF hn h2;obtain rfl:=hv s x f v hx;obtain rfl:=dq s x f hx;have b1:((m:Int) != (m:Int))=false:=by simp
 have HF:=U3 hx;have HH:=Hh (fun w3:World=>ZA r hr w3)
 cases h5:xL m 5 10 with
 | some q =>
  rw[h5]at HF;rw[HF]at HH;have E:Hid (yI m=[u8 249,u8 (q/256),u8 q]):=by rw[Hid,yI,if_neg (by simp[hN]),h5]
  clear pJ dq hv hN hn h2 qe fl hr hx HF h5;go_enter Tryz.func120,Tryz.ntmps120
  go_wp2_with fail
  refine(HH.out _).mono ?_
  rintro e w' ⟨⟨hq,rfl,he⟩,rfl⟩
  obtain rfl:=he q rfl;clear he;go_wp2_with fail
  go_ret
  refine⟨_,rfl, ?_⟩
  rw[E.out]
  refine(Fresh.lit w2 _ _ 3 rfl (by simp) ?_).step_ hb
  simp only[List.map_cons,List.map_nil,xZ]
  simp
 | none =>
 rw[h5]at HF;rw[HF]at HH;have E:Hid (yI m=[u8 250,u8 (r/16777216),u8 (r/65536),u8 (r/256),u8 r]):=by rw[Hid,yI,if_neg (by simp[hN]),h5,h2]
 clear pJ dq hv hN hn h2 qe fl hr hx HF h5;go_enter Tryz.func120,Tryz.ntmps120
 go_wp2_with fail
 refine(HH.out _).mono ?_
 rintro e w' ⟨⟨hq,rfl,_⟩,rfl⟩
 go_wp2_with fail
 go_ret
 refine⟨_,rfl, ?_⟩
 rw[E.out]
 refine(Fresh.lit w2 _ _ 5 rfl (by simp) ?_).step_ hb
 simp only[List.map_cons,List.map_nil,xZ]
 simp
theorem jv (n:Int) (w:World) (h0:0≤n) (h1:n<18446744073709551616) :
  Calls Tryz.prog 120 #[.int .u64 n] w fun e w'=>∃ r,e=.returned r∧Fresh w (yI n.toNat) r w':=by
 obtain⟨m,rfl⟩:=Int.eq_ofNat_of_zero_le h0;rw[Int.toNat_natCast]
 exact jq m (by omega) w
def U64 (n:Int):Prop:=0≤n∧n<18446744073709551616
def Ix (w:World) (base:Nat) (v:Value) (l:List UInt8) (e:Ending) (w':World):Prop :=
 ∃ r,e=.returned r∧OwnB w' base r l∧w.grownBy w' v.ownBlock∧At0 w v.ownBlock r.ownBlock
def pU (x:Itm):Prop:=∀ (H:Snap) (k n:Int) (ba:Option Addr) (bl bc:Nat) (ia:Option Addr) (il ic:Nat) (w:World) (base:Nat) (v:Value) (l:List UInt8),
 Kinds x→ItemA H k n ba bl bc ia il ic x→Holds w H→OwnB w base v l→base≤w.heap.size→(∀ g,v.ownBlock=some g→H g=none)→l.length+(zh x).length≤1099511627776→
 Calls Tryz.prog 94 #[v,.agg #[.int .i64 k,.int .u64 n,.slice ba bl bc,.slice ia il ic]] w (Ix w base v (l++zh x))
theorem Yz (x:Itm) (h8:x.kind=8):pU x:=by
 intro H k n ba bl bc ia il ic w base v l hk hx hH xt hbase hv xo
 obtain⟨rfl,rfl,rfl,rfl,hx⟩:=hx;have vG:=hx.bounds;have E:Hid (zh x=yI x.n):=by rw[Hid,xD,if_pos h8]
 rw[E.out]at xo;have HL:=Hh xo;have HB:=Hh vG;have HV:=Hh hv;clear xo vG hv;go_enter Tryz.func94,Tryz.ntmps94
 go_wp2_with (first
  | (go_at_call 120;refine(jv _ _ (by omega) (by have:=HB.out;omega)).mono ?_;rintro e w1 ⟨r,rfl,hf⟩;obtain⟨A,c,rfl,_,_,ri⟩:=hf.own.form)
  | (at_builtin;refine zn rfl (.tmp 11) (.tmp 14) rfl base v l rfl ((xt.alloc _).below hf.2) A _ c (yI x.n) rfl (by simp) (by simpa using ri) HL.out (by have:=hf.2.size;simp at this;omega) ?_;intro v' w2 hown' hg hat))
 go_ret
 refine⟨v',rfl,by rw[E.out];exact hown', ?_, ?_⟩
 ·exact zD (xJ ((zq w _).trans (hf.2.mono (by simp))) _) hg (.inl rfl)
 exact At0.step (.inl rfl) (by have:=hf.2.size;simp at this;omega) hat
theorem bS (x:Itm) (h7:x.kind=7) (jW:24≤x.n):pU x:=by
 intro H k n ba bl bc ia il ic w base v l hk hx hH xt hbase hv xo
 obtain⟨rfl,rfl,rfl,rfl,hx⟩:=hx;have vG:=hx.bounds;have E:Hid (zh x=[u8 248,u8 x.n]):=by rw[Hid,xD,if_neg (by omega),if_pos ⟨h7,jW⟩]
 rw[E.out]at xo;have HL:=Hh xo;have HB:=Hh vG;have HV:=Hh hv;have Do:(24:Int)≤(x.n:Int):=by omega
 clear xo vG hv jW;go_enter Tryz.func94,Tryz.ntmps94
 go_wp2_with (at_builtin;refine zn rfl (.tmp 25) (.tmp 29) rfl base v l rfl ((xt.alloc _).alloc _) _ 2 2 [u8 248,u8 x.n] rfl rfl ?hs HL.out (by simp;omega) ?_)
 case hs=>exact Src.new _ _ _ _ (by simp) _ (by simp[se])
 intro v' w2 hown' hg hat
 go_wp2
 go_ret
 refine⟨v',rfl,by rw[E.out];exact hown', ?_, ?_⟩
 ·exact zD (xJ ((zq w _).alloc (by simp) _) _) hg (.inl rfl)
 exact At0.step (.inl rfl) (by simp;omega) hat
theorem km {w:World}{g:Nat}{cs:Array Value}{e:TypeId}(h:w.heap[g]? = some (.cells cs e (0,0))) (i:Nat):w.cell? ⟨g,i,none⟩=cs[i]? :=cell_of_row w g i cs e (0,0) h
theorem Wx {w w1 w2 w3:World}{base:Nat}{v:Value}{l:List UInt8}{cs:Array Value}{e:TypeId}(xt:OwnB w base v l)
  (h1:Below (w.alloc (.cells cs e)).heap.size (w.alloc (.cells cs e)) w1) (h2:Below w1.heap.size w1 w2) (h3:w2.grownBy w3 v.ownBlock) :
  w3.heap[w.heap.size]? = some (.cells cs e (0,0))∧w.heap.size+1≤w3.heap.size:=by
 have s1:=h1.size;have s2:=h2.size;have s3:=h3.size
 simp at s1
 refine⟨?_,by omega⟩
 rw[h3.block _ (by omega) (fun h=>by have:=(xt.lt _ h.symm).2;omega),h2.block _ (by omega),h1.block _ (by simp)]
 exact heap_alloc_new w _
theorem Wa (x:Itm) (h8:¬ x.kind=8) (h7:¬ (x.kind=7∧24≤x.n)) (ih:∀ y:Itm,cnt y<cnt x→pU y):pU x:=by
 intro H k n ba bl bc ia il ic w base v l hk hx hH xt hbase hv xo
 obtain⟨rfl,rfl,rfl,rfl,hx⟩:=hx;have vG:=hx.bounds;have E:Hid (zh x=yE x.kind.toNat (xi x)++x.bytes++zM x.items):=by rw[Hid,xD,if_neg h8,if_neg h7]
 rw[E.out]at xo;have ji:=hk.kind;have Pv:x.kind<8:=by omega
 have b8:(x.kind==8)=false:=by simp[h8]
 have tz:(xi x:Int)<18446744073709551616:=by
  unfold xi
  repeat' split
  all_goals omega
 have HN:U64 (xi x):=⟨by omega,tz⟩
 clear tz;have OL:x.kind=7→(x.n:Int)<24:=fun h=>by have:¬ 24≤x.n:=fun h'=>h7 ⟨h,h'⟩;omega
 have HL:=Hh xo;have HB:=Hh vG;have HV:=Hh hv;clear xo vG hv h8 h7
 have TZ:((x.kind==7)=true∧(x.n:Int)<24)∨(x.kind==7)=false:=by
  by_cases hk7:x.kind=7
  ·exact .inl ⟨by simp[hk7],OL hk7⟩
  exact .inr (by simp[hk7])
 clear OL;have G:Hid (w.grownBy w none):=yz w none
 rcases TZ with ⟨b7,hn⟩ | b7
 all_goals
  go_enter Tryz.func94,Tryz.ntmps94
  go_wp2_with fail
  refine(jw hx.arg _ (by omega) (by omega)).mono ?_
  rintro e w1 ⟨rfl,hm⟩
  go_wp2_with fail
  refine(iE _ _ _ (by omega) (by omega) (by omega) HN.2).mono ?_
  rintro e w2 ⟨r,rfl,hf⟩
  obtain⟨A,c,rfl,_,_,ri⟩:=hf.own.form;have vT:w.heap.size+1≤w1.heap.size:=by have h1:=hm.size;simp at h1;omega
  have dw:w.heap.size+1≤w2.heap.size:=by have h1:=hm.size;have h2:=hf.2.size;simp at h1;omega
  go_wp2_with (at_builtin;refine zO ?_)
  refine zn rfl (.tmp 31) (.tmp 36) rfl base v l rfl (((xt.alloc _).below hm).below hf.2) A _ c (yE x.kind.toNat (xi x)) rfl (by simp) (by simpa using ri) (by have:=HL.out;simp at this⊢;omega) (by omega) ?_
  intro v3 w3 hown3 nd hat3
  obtain⟨Uw,Pp⟩:=Wx xt hm hf.2 nd;have fc:=km Uw 2;have Vl:=km Uw 3
  simp at fc Vl
  have MH:Holds w3 H:=(((hH.alloc _).below hm (Nat.le_refl _)).below hf.2 (Nat.le_refl _)).grown nd HV.out;have NK:=Src.of_row hx.bytes.row MH;have ye:w.grownBy w3 v.ownBlock:=zD (xJ (((zq w _).trans (hm.mono (by simp))).trans (hf.2.mono (by omega))) _) nd (.inl rfl);go_wp2_with (at_builtin;refine zO ?_)
  refine zn rfl (.tmp 38) (.tmp 40) rfl base v3 _ rfl hown3 ba _ bc x.bytes rfl rfl NK (by have:=HL.out;simp at this⊢;omega) (by omega) ?_
  intro v4 w4 lQ og hat4
  have DI:Holds w4 H:=MH.grown og (fun g hg=>by
   rcases hat3 with h | ⟨g',h,hg'⟩
   ·exact HV.out g (h ▸ hg)
   rw[h]at hg;injection hg with hg;subst hg;exact hH.none_of_ge (by omega))
  have Y1:At0 w v.ownBlock v3.ownBlock:=At0.step (.inl rfl) (by omega) hat3;have yJ:w.grownBy w4 v.ownBlock:=zD ye og Y1
  have O5:w4.heap[w.heap.size]? = some (.cells #[.int .i64 x.kind,.int .u64 x.n,.slice ba x.bytes.length bc,.slice ia x.items.length ic] 26 (0,0)) :=
   (og.block _ (by omega) (fun h=>by
    rcases Y1 with h' | ⟨g',h',hg'⟩
    ·rw[h']at h;have:=(xt.lt _ h.symm).2;omega
    rw[h']at h;injection h with h;subst h
    rcases hat3 with h3 | ⟨g3,h3,hg3'⟩
    ·rw[h3]at h';have:=(xt.lt _ h').2;omega
    rw[h']at h3;injection h3 with h3;omega)).trans Uw
  have JR:=km O5 3
  simp at JR
  have My:At0 w v.ownBlock v4.ownBlock:=At0.step Y1 (by omega) hat4;clear fc Vl Uw O5;go_wp2_with (at_builtin;refine zO ?_)
  have fg:x.items.length≤9223372036854775807:=by have:=HB.out;omega
  go_loopw [0,45] (fun v' i wr=>∃ k:Nat,k≤x.items.length∧i=.int .i64 k∧OwnB wr base v' (l++yE x.kind.toNat (xi x)++x.bytes++zM (x.items.take k))∧
    w.grownBy wr v.ownBlock∧At0 w v.ownBlock v'.ownBlock) (fun _ i _=>x.items.length-(intOf i).toNat)
  case atStart=>exact⟨0,Nat.zero_le _,rfl,by simpa [zM] using lQ,yJ,My⟩
  case round =>
  obtain⟨k,rO,rfl,qV,wn,ve⟩:=hrel
  by_cases zB:k<x.items.length
  ·have PB:Holds wr H:=hH.grown wn HV.out;obtain⟨ib,io,tf,xI⟩:=hx.items (by omega);obtain⟨eba,ebc,eia,eic,q0,q1,q2,q3,vW⟩:=xI.get k zB;subst tf;have p0:=PB.cell q0;have p1:=PB.cell q1;have p2:=PB.cell q2;have p3:=PB.cell q3;have ry:=vI x.items k zB;have zC:=qi x.items (k+1)
   have oM:∀ g,u0.ownBlock=some g→H g=none:=fun g hg=>by
    rcases ve with h | ⟨g',h,hg'⟩
    ·exact HV.out g (h ▸ hg)
    rw[h]at hg;injection hg with hg;subst hg;exact hH.none_of_ge hg'
   have LY:=wn.size
   have pz:(l++yE x.kind.toNat (xi x)++x.bytes++zM (x.items.take k)).length+(zh x.items[k]).length≤1099511627776:=by
    have h1:=HL.out;rw[ry]at zC
    simp only[List.length_append]at h1 zC⊢
    omega
   have IHC:=ih x.items[k] (vx x k zB) H _ _ eba _ ebc eia _ eic (wr.alloc (.cells #[.int .i64 x.items[k].kind,.int .u64 x.items[k].n,.slice eba x.items[k].bytes.length ebc,.slice eia x.items[k].items.length eic] 26)) base u0 _
    (hk.items.get k zB) vW.arg (PB.alloc _) (qV.alloc _) (by simp;omega) oM pz
   have IHH:=Hh IHC;have HF:=Hh ry;clear ry zC pz oM q0 q1 q2 q3 IHC;go_wp2_with fail
   refine IHH.out.mono ?_
   rintro e w6 ⟨r6,rfl,T9,xO,Uu⟩
   have R:OwnB w6 base r6 (l++yE x.kind.toNat (xi x)++x.bytes++zM (x.items.take (k+1)))∧w.grownBy w6 v.ownBlock∧At0 w v.ownBlock r6.ownBlock:=by
    refine⟨by rw[HF.out];simpa using T9,zD (yL wn _) xO ve,At0.step ve (by simp;omega) Uu⟩
   clear T9 xO Uu qV wn ve IHH HF p0 p1 p2 p3;go_wp2_with fail
   go_roundw
   case rel=>exact⟨k+1,by omega,by go_num,R.1,R.2.1,R.2.2⟩
   case measure=>simp[intOf];omega
  have ji:k=x.items.length:=by omega
  subst ji;rw[List.take_length]at qV;go_wp2_with fail
  go_ret
  exact⟨_,rfl,by rw[E.out];simpa using qV,wn,ve⟩
theorem rU (x:Itm):pU x:=by
 have main:∀ N,∀ x:Itm,cnt x≤N→pU x:=by
  intro N
  induction N with
  | zero =>
   intro x hx
   have:0<cnt x:=by cases x;rw[cnt];omega
   omega
  | succ N ih =>
  intro x hx
  by_cases h8:x.kind=8
  ·exact Yz x h8
  by_cases h7:x.kind=7∧24≤x.n
  ·exact bS x h7.1 h7.2
  exact Wa x h8 h7 fun y hy=>ih y (by omega)
 exact main _ x (Nat.le_refl _)
theorem NM (n:Nat):((n:Int)==9221120237041090560)=(n==9221120237041090560):=by rw[Bool.eq_iff_iff,beq_iff_eq,beq_iff_eq];omega
theorem Ju {α:Type}(l:List α):((l.length:Int)==0)=l.isEmpty:=by cases l <;> simp <;> omega
theorem VO {a b c d:Bool}(h:a=b) (k:c=d):Ending.returned (.tuple #[.bool a,.bool c])=Ending.returned (.tuple #[.bool b,.bool d]):=by rw[h,k]
theorem UN {H:Snap}{x:Itm}{ba:Option Addr}{bc:Nat}{ia:Option Addr}{ic:Nat}(hx:IsItem H ba bc ia ic x) (w:World) (hk:x.kind=0∨x.kind=1∨x.kind=2∨x.kind=7):
  Calls Tryz.prog 131 #[xq x ba bc ia ic] w fun e w'=>e=.returned (.tuple #[.bool (yv x),.bool (yh x)])∧Below w.heap.size w w':=by
 obtain⟨_,_,hn,zH,zG,rN,pI⟩:=hx.bounds;have hb:x.bytes.length≤9223372036854775807:=by omega
 have hi:x.items.length≤9223372036854775807:=by omega
 have HN:=Hh hn;clear zH zG rN pI hx hn
 rcases hk with hk | hk | hk | hk
 all_goals
  have E:Hid (yv x=yv x∧yh x=true):=⟨rfl,by simp[yh,hk]⟩
  go_enter Tryz.func131,Tryz.ntmps131
  go_wp2
  all_goals go_ret2
 all_goals refine⟨VO ?_ E.out.2.symm, ?_⟩
 all_goals first | exact zq w _ | exact(zq w _).drew | skip
 all_goals (simp[yv,Ju, *];try (rw[Bool.eq_iff_iff];simp;omega);skip)
 all_goals omega
theorem UQ {H:Snap}(hT:Tabs H) {x:Itm}{ba:Option Addr}{bc:Nat}{ia:Option Addr}{ic:Nat}(hx:IsItem H ba bc ia ic x) (w:World) (hH:Holds w H) (hk:x.kind=3):
  Calls Tryz.prog 131 #[xq x ba bc ia ic] w fun e w'=>e=.returned (.tuple #[.bool (yv x),.bool (yh x)])∧Below w.heap.size w w':=by
 obtain⟨_,_,hn,zH,zG,rN,pI⟩:=hx.bounds;have hb:x.bytes.length≤9223372036854775807:=by omega
 have hi:x.items.length≤9223372036854775807:=by omega
 have HN:=Hh hn;have dl:=hx.bytes;clear zH zG rN pI hx hn;have E:Hid (yh x=true):=by simp[Hid,yh,hk]
 go_enter Tryz.func131,Tryz.ntmps131
 go_wp2_with (go_at_call 140;refine(kT hT _ (hH.alloc _) ba _ _ bc rfl dl).mono ?_;rintro e w1 ⟨rfl,zH⟩)
 all_goals go_ret2
 all_goals refine⟨VO ?_ E.out.symm, ?_⟩
 all_goals first | exact(zq w _).trans (zH.mono (by simp)) | exact zq w _ | exact(zq w _).drew | skip
 all_goals (simp[yv, *])
theorem UO {H:Snap}{x:Itm}{ba:Option Addr}{bc:Nat}{ia:Option Addr}{ic:Nat}(hx:IsItem H ba bc ia ic x) (w:World) (hk:x.kind=8) :
  Calls Tryz.prog 131 #[xq x ba bc ia ic] w fun e w'=>e=.returned (.tuple #[.bool (yv x),.bool (yh x)])∧Below w.heap.size w w':=by
 obtain⟨_,_,hn,zH,zG,rN,pI⟩:=hx.bounds;have hb:x.bytes.length≤9223372036854775807:=by omega
 have hi:x.items.length≤9223372036854775807:=by omega
 have HN:=Hh hn;clear zH zG rN pI hx hn;have E:Hid (yh x=true):=by simp[Hid,yh,hk]
 go_enter Tryz.func131,Tryz.ntmps131
 have r1:=qS x.n;have r2:=iT x.n;go_wp2
 all_goals go_ret2
 all_goals refine⟨VO ?_ E.out.symm, ?_⟩
 all_goals first | exact zq w _ | exact(zq w _).drew | skip
 all_goals simp[yv,vB,NM, *]
theorem UP {x:Itm}{ba:Option Addr}{bc:Nat}{ia:Option Addr}{ic:Nat}(w:World) (hk:yh x=false) :
  Calls Tryz.prog 131 #[xq x ba bc ia ic] w fun e w'=>e=.returned (.tuple #[.bool (yv x),.bool (yh x)])∧Below w.heap.size w w':=by
 have h:(x.kind==0)=false∧(x.kind==1)=false∧(x.kind==2)=false∧(x.kind==3)=false∧(x.kind==7)=false∧(x.kind==8)=false:=by
  simp only[yh,Bool.or_eq_false_iff]at hk
  simp only[hk,and_self]
 obtain⟨h0,h1,h2,h3,h7,h8⟩:=h
 have E:Hid (yh x=false∧yv x=false):=⟨hk,by
  simp only[beq_eq_false_iff_ne,ne_eq]at h0 h1 h2 h3 h7 h8
  simp[yv, *]⟩
 clear hk;go_enter Tryz.func131,Tryz.ntmps131
 go_wp2
 go_ret2
 exact⟨VO E.out.2.symm E.out.1.symm,zq w _⟩
theorem oU {H:Snap}(hT:Tabs H) {k n:Int}{ba:Option Addr}{bl bc:Nat}{ia:Option Addr}{il ic:Nat}{x:Itm}(hx:ItemA H k n ba bl bc ia il ic x) (w:World) (hH:Holds w H) :
  Calls Tryz.prog 131 #[.agg #[.int .i64 k,.int .u64 n,.slice ba bl bc,.slice ia il ic]] w fun e w'=>e=.returned (.tuple #[.bool (yv x),.bool (yh x)])∧Below w.heap.size w w':=by
 obtain⟨rfl,rfl,rfl,rfl,hx⟩:=hx
 by_cases h3:x.kind=3
 ·exact UQ hT hx w hH h3
 by_cases h8:x.kind=8
 ·exact UO hx w h8
 by_cases ha:x.kind=0∨x.kind=1∨x.kind=2∨x.kind=7
 ·exact UN hx w ha
 exact UP w (by simp[yh];omega)
def uW:Option Nat→Int
 | none => -1
 | some r=>r
def va (x:Itm):Prop:=∀ (H:Snap),Tabs H→∀ (k n:Int) (ba:Option Addr) (bl bc:Nat) (ia:Option Addr) (il ic:Nat) (w:World) (c d:Nat),
 ItemA H k n ba bl bc ia il ic x→Holds w H→c≤65536→d≤65536→
 Calls Tryz.prog 111 #[.agg #[.int .i64 k,.int .u64 n,.slice ba bl bc,.slice ia il ic],.int .i64 c,.int .i64 d] w fun e w'=>e=.returned (.int .i64 (uW (yX x c d)))∧Below w.heap.size w w'
theorem ZT (x:Itm) {H:Snap}{ba:Option Addr}{bc:Nat}{ia:Option Addr}{ic:Nat}(w:World) (d:Nat) :
  Calls Tryz.prog 111 #[xq x ba bc ia ic,.int .i64 0,.int .i64 d] w fun e w'=>e=.returned (.int .i64 (uW (yX x 0 d)))∧Below w.heap.size w w':=by
 have E:Hid (yX x 0 d=none):=by rw[Hid,un,if_pos (by omega)]
 go_enter Tryz.func111,Tryz.ntmps111
 go_wp2_with fail
 go_ret
 exact⟨by rw[E.out];rfl,zq w _⟩
theorem wk {x:Itm}{c d:Nat}(h:yq x d (c-1)=false):yX x c d=none:=by
 rw[un]
 by_cases h1:c<1
 ·rw[if_pos h1]
 rw[if_neg h1,if_pos h]
theorem o8 {x:Itm}{d m:Nat}(hk:x.kind=0∨x.kind=1):yq x d m=true↔x.bytes.length=0∧x.items.length=0:=by
 have hp:=(zL x).2 (by omega)
 unfold yq xX yv
 rw[if_pos hp,if_pos hk]
 simp only[Bool.and_eq_true,List.isEmpty_iff,decide_eq_true_eq,List.length_eq_zero_iff]
 constructor
 ·rintro⟨⟨⟨a,b⟩,_⟩,_⟩;exact⟨a,b⟩
 rintro⟨a,b⟩;exact⟨⟨⟨a,b⟩,by rw[a];simp⟩,by rw[b];simp⟩
theorem ah {x:Itm}{d m:Nat}(hk:x.kind=2):yq x d m=true↔x.n=0∧x.items.length=0∧x.bytes.length≤4096:=by
 have hp:=(zL x).2 (by omega)
 unfold yq xX yv
 rw[if_pos hp,if_neg (by omega),if_pos hk]
 simp only[Bool.and_eq_true,List.isEmpty_iff,decide_eq_true_eq,List.length_eq_zero_iff,beq_iff_eq]
 constructor
 ·rintro⟨⟨⟨a,b⟩,c⟩,_⟩;exact⟨a,b,c⟩
 rintro⟨a,b,c⟩;exact⟨⟨⟨a,b⟩,c⟩,by rw[b];simp⟩
theorem ai {x:Itm}{d m:Nat}(hk:x.kind=3):yq x d m=true↔x.n=0∧x.items.length=0∧x.bytes.length≤4096∧Lib.validD x.bytes=true:=by
 have hp:=(zL x).2 (by omega)
 unfold yq xX yv
 rw[if_pos hp,if_neg (by omega),if_neg (by omega),if_pos hk]
 simp only[Bool.and_eq_true,List.isEmpty_iff,decide_eq_true_eq,List.length_eq_zero_iff,beq_iff_eq]
 constructor
 ·rintro⟨⟨⟨⟨a,b⟩,v⟩,c⟩,_⟩;exact⟨a,b,c,v⟩
 rintro⟨a,b,c,v⟩;exact⟨⟨⟨⟨a,b⟩,v⟩,c⟩,by rw[b];simp⟩
theorem ak {x:Itm}{d m:Nat}(hk:x.kind=7):yq x d m=true↔x.bytes.length=0∧x.items.length=0∧(x.n<24∨(32≤x.n∧x.n<256)):=by
 have hp:=(zL x).2 (by omega)
 unfold yq xX yv
 rw[if_pos hp,if_neg (by omega),if_neg (by omega),if_neg (by omega),if_pos hk]
 simp only[Bool.and_eq_true,Bool.or_eq_true,List.isEmpty_iff,decide_eq_true_eq,List.length_eq_zero_iff,beq_iff_eq]
 constructor
 ·rintro⟨⟨⟨⟨a,b⟩,v⟩,_⟩,_⟩;exact⟨a,b,v⟩
 rintro⟨a,b,v⟩;exact⟨⟨⟨⟨a,b⟩,v⟩,by rw[a];simp⟩,by rw[b];simp⟩
theorem al {x:Itm}{d m:Nat}(hk:x.kind=8):yq x d m=true↔x.bytes.length=0∧x.items.length=0∧(isNaN x.n=false∨x.n=vB):=by
 have hp:=(zL x).2 (by omega)
 unfold yq xX yv
 rw[if_pos hp,if_neg (by omega),if_neg (by omega),if_neg (by omega),if_neg (by omega),if_pos hk]
 simp only[Bool.and_eq_true,Bool.or_eq_true,List.isEmpty_iff,decide_eq_true_eq,List.length_eq_zero_iff,beq_iff_eq,Bool.not_eq_true']
 constructor
 ·rintro⟨⟨⟨⟨a,b⟩,v⟩,_⟩,_⟩;exact⟨a,b,v⟩
 rintro⟨a,b,v⟩;exact⟨⟨⟨⟨a,b⟩,v⟩,by rw[a];simp⟩,by rw[b];simp⟩
theorem wY {x:Itm}{d m:Nat}(hk:4≤x.kind∧x.kind≤6):yq x d m=true↔d<8∧x.bytes.length=0∧(x.kind=6→x.items.length=1)∧(x.kind≠6→x.n=0)∧(x.kind=5→x.items.length%2=0)∧x.items.length≤m:=by
 have hp:¬ yh x=true:=by rw[zL];omega
 unfold yq xX vk
 rw[if_neg hp]
 simp only[Bool.and_eq_true,decide_eq_true_eq]
 constructor
 ·rintro⟨⟨⟨_,_,a,b,c,d,e⟩,_⟩,f⟩;exact⟨a,b,c,d,e,f⟩
 rintro⟨a,b,c,d,e,f⟩;exact⟨⟨⟨hk.1,hk.2,a,b,c,d,e⟩,by omega⟩,f⟩
theorem ZX {x:Itm}{d m:Nat}(hk:x.kind<0∨8<x.kind):yq x d m=false:=by
 cases h:yq x d m with
 | false=>rfl
 | true =>
 have:=sF (kL h).1
 omega
theorem vA {x:Itm}{c d:Nat}(hc:0<c) (h:yq x d (c-1)=true) (h0:x.items.length=0):yX x c d=some (c-1):=by
 rw[List.length_eq_zero_iff]at h0;rw[un,if_neg (by omega),if_neg (by simp[h]),h0,xf]
 simp only
 rw[if_neg (by rintro⟨_,h⟩;cases h)]
end Go.Proofs.YtliomcphdnppnaaGreatDoor
