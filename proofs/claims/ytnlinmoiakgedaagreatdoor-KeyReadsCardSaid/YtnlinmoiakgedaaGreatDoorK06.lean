/- squeezed. Walks: cbor.head. Walks: cbor.majo -/
import Derived.RegionTactic
import Derived.ChangeAlike
import Derived.Test.YtnlinmoiakgedaaGreatDoorK03
import Derived.Laws.FloatArith
import Derived.Test.YtnlinmoiakgedaaGreatDoorK04
set_option linter.unusedVariables false
set_option linter.unusedSimpArgs false
set_option maxRecDepth 100000
set_option maxHeartbeats 3200000
namespace Go.Proofs.YtnlinmoiakgedaaGreatDoor
open Go.RowKit
theorem sQ (m n:Int) (w:World) (lQ:0≤m) (hm:m<8) (h0:0≤n) (h1:n<18446744073709551616) :
  Calls Tryz.prog 76 #[.int .u8 m,.int .u64 n] w fun e w'=>∃ r,e=.returned r∧Fresh w (zm m.toNat n.toNat) r w':=by
 obtain⟨m',pC⟩:=Int.eq_ofNat_of_zero_le lQ;obtain⟨n',cG⟩:=Int.eq_ofNat_of_zero_le h0;have HM:=Hh pC;have HN:=Hh cG;have H1:=Hh h1;clear h1 pC cG;go_enter Tryz.func76,Tryz.ntmps76
 go_wp2
 ·go_ret
  obtain rfl:=HM.out;obtain rfl:=HN.out;rw[Int.toNat_natCast,Int.toNat_natCast];have yi:(n':Int)<24:=by with_reducible assumption
  refine⟨_,rfl,Fresh.lit _ _ _ 1 ?_ ?_ ?_⟩
  ·rw[zh,if_pos (by omega)]
  ·have:=(ss m' n').2;omega
  ·rw[zm,if_pos (by omega)]
   simp only[List.map_cons,List.map_nil,xA]
   rw[np m' n' (by omega) (by omega),Nat.mod_eq_of_lt (by omega)]
 ·go_ret
  obtain rfl:=HM.out;obtain rfl:=HN.out;rw[Int.toNat_natCast,Int.toNat_natCast];have nD:(24:Int)≤n':=by with_reducible assumption
  have yi:(n':Int)<256:=by with_reducible assumption
  refine⟨_,rfl,Fresh.lit _ _ _ 2 ?_ ?_ ?_⟩
  ·rw[zh,if_neg (by omega),if_pos (by omega)]
  ·have:=(ss m' n').2;omega
  ·rw[zm,if_neg (by omega),if_pos (by omega)]
   simp only[List.map_cons,List.map_nil,xA]
   have e24':=np m' 24 (by omega) (by omega);rw[show((24:Nat):Int)=24 from rfl]at e24';rw[e24',Nat.mod_eq_of_lt (by omega),Nat.mod_eq_of_lt (by omega)]
 ·go_ret
  obtain rfl:=HM.out;obtain rfl:=HN.out;rw[Int.toNat_natCast,Int.toNat_natCast];have nD:(256:Int)≤n':=by with_reducible assumption
  have yi:(n':Int)<65536:=by with_reducible assumption
  refine⟨_,rfl,Fresh.lit _ _ _ 3 ?_ ?_ ?_⟩
  ·rw[zh,if_neg (by omega),if_neg (by omega),if_pos (by omega)]
  ·have:=(ss m' n').2;omega
  ·rw[zm,if_neg (by omega),if_neg (by omega),if_pos (by omega)]
   simp only[List.map_cons,List.map_nil,xA]
   have e24':=np m' 25 (by omega) (by omega);rw[show((25:Nat):Int)=25 from rfl]at e24';rw[e24',Nat.mod_eq_of_lt (show m'*32+25<256 by omega),Nat.mod_eq_of_lt (show n'/256<256 by omega)];rfl
 ·go_ret
  obtain rfl:=HM.out;obtain rfl:=HN.out;rw[Int.toNat_natCast,Int.toNat_natCast];have nD:(65536:Int)≤n':=by with_reducible assumption
  have yi:(n':Int)<4294967296:=by with_reducible assumption
  refine⟨_,rfl,Fresh.lit _ _ _ 5 ?_ ?_ ?_⟩
  ·rw[zh,if_neg (by omega),if_neg (by omega),if_neg (by omega),if_pos (by omega)]
  ·have:=(ss m' n').2;omega
  ·rw[zm,if_neg (by omega),if_neg (by omega),if_neg (by omega),if_pos (by omega)]
   simp only[List.map_cons,List.map_nil,xA]
   have e24':=np m' 26 (by omega) (by omega);rw[show((26:Nat):Int)=26 from rfl]at e24';rw[e24',Nat.mod_eq_of_lt (show m'*32+26<256 by omega),Nat.mod_eq_of_lt (show n'/16777216<256 by omega)];rfl
 ·have HG:Hid (zm m.toNat n.toNat=u8 (m.toNat*32+27)::be8 n.toNat 8):=by
   have nD:(4294967296:Int)≤n:=by with_reducible assumption
   rw[zm,if_neg (by omega),if_neg (by omega),if_neg (by omega),if_neg (by omega)];rfl
  have uu:OwnB (w.alloc (.cells #[.int .u8 (bits .or .u8 (m*32) 27)] 5)) w.heap.size (.slice (some ⟨w.heap.size,0,none⟩) 1 1) [u8 (m.toNat*32+27)]:=by
   refine OwnB.lit w _ _ _ 1 rfl ?_ (Nat.le_refl _) (by simp)
   have e27':=np m.toNat 27 (by omega) (by omega);rw[show((27:Nat):Int)=27 from rfl,Int.toNat_of_nonneg lQ]at e27'
   simp only[List.map_cons,List.map_nil,xA]
   rw[e27',Nat.mod_eq_of_lt (by omega)]
  go_loopw [6,7] (fun v s wr=>∃ k:Nat,k≤8∧s=.int .i64 (56-8*(k:Int))∧OwnB wr w.heap.size v (u8 (m.toNat*32+27)::be8 n.toNat k)∧Below w.heap.size w wr) (fun _ s _=>(intOf s+8).toNat)
  case atStart=>exact⟨0,by omega,rfl,uu,(Below.refl _ _).alloc (Nat.le_refl _) _⟩
  case round =>
   obtain⟨k,hk,rfl,vq,hb⟩:=hrel
   by_cases yi:k<8
   ·have ln:=hb.size;go_wp2_with (at_builtin;refine zO rfl (.tmp 61) (.tmp 66) rfl w.heap.size _ _ rfl (vq.alloc _) _ 1 1 [u8 (n.toNat/2 ^ (56-8*k))] rfl rfl ?hs ?hl ?hz ?_)
    case hs =>
     rw[Xh (n/2 ^ (56-8*k)%256) (n.toNat/2 ^ (56-8*k)) (by obtain rfl:=HN.out;simp)]
     exact Src.lit wr #[zD (u8 (n.toNat/2 ^ (56-8*k)))] _
    case hl=>simp[vR];omega
    case hz=>simp;omega
    intro v' w' hown' hg _
    have R:OwnB w' w.heap.size v' (u8 (m.toNat*32+27)::be8 n.toNat (k+1))∧Below w.heap.size w w' :=
     ⟨by simpa [be8] using hown',((hb.alloc ln _).grown hg (by simp;omega) (fun g hg=>(vq.lt g hg).1))⟩
    clear hown' hg vq hb uu;go_wp2
    go_roundw
    case rel=>exact⟨k+1,by omega,by go_num,R.1,R.2⟩
    case measure=>simp[intOf];omega
   ·have T1:k=8:=by omega
    subst T1;go_wp2
    go_ret
    refine⟨_,rfl, ?_⟩
    rw[HG.out]
    exact⟨vq,hb⟩
theorem jt {H:Snap}{k n:Int}{ba:Option Addr}{bl bc:Nat}{ia:Option Addr}{il ic:Nat}{x:Itm}(hx:ItemA H k n ba bl bc ia il ic x) (w:World) (h0:0≤x.kind) (h8:x.kind≤8) :
  Calls Tryz.prog 77 #[.agg #[.int .i64 k,.int .u64 n,.slice ba bl bc,.slice ia il ic]] w fun e w'=>e=.returned (.tuple #[.int .u8 x.kind,.int .u64 (numP x)])∧Below w.heap.size w w':=by
 obtain⟨rfl,rfl,rfl,rfl,hx⟩:=hx;obtain⟨_,_,hn,vg,wg,qC,o7⟩:=hx.bounds;have hb:x.bytes.length≤9223372036854775807:=by omega
 have hi:x.items.length≤9223372036854775807:=by omega
 clear vg wg qC o7 hx;have HN:=Hh hn;clear hn
 by_cases h2:x.kind=2
 ·have e:Hid (Ending.returned (.tuple #[.int .u8 2,.int .u64 x.bytes.length])=Ending.returned (.tuple #[.int .u8 x.kind,.int .u64 (numP x)])):=by simp[Hid,numP,h2]
  go_enter Tryz.func77,Tryz.ntmps77
  go_wp2
  go_region
  all_goals go_wp2
  all_goals go_ret2
  all_goals exact⟨e.out,(zi w _).drew⟩
 by_cases h3:x.kind=3
 ·have e:Hid (Ending.returned (.tuple #[.int .u8 3,.int .u64 x.bytes.length])=Ending.returned (.tuple #[.int .u8 x.kind,.int .u64 (numP x)])):=by simp[Hid,numP,h3]
  clear h2;go_enter Tryz.func77,Tryz.ntmps77
  go_wp2
  go_region
  all_goals go_wp2
  all_goals go_ret2
  all_goals exact⟨e.out,(zi w _).drew⟩
 by_cases h4:x.kind=4
 ·have e:Hid (Ending.returned (.tuple #[.int .u8 4,.int .u64 x.items.length])=Ending.returned (.tuple #[.int .u8 x.kind,.int .u64 (numP x)])):=by simp[Hid,numP,h4]
  clear h2 h3;go_enter Tryz.func77,Tryz.ntmps77
  go_wp2
  go_region
  all_goals go_wp2
  all_goals go_ret2
  all_goals exact⟨e.out,(zi w _).drew⟩
 by_cases h5:x.kind=5
 ·have e:Hid (Ending.returned (.tuple #[.int .u8 5,.int .u64 ((x.items.length:Int)/2)])=Ending.returned (.tuple #[.int .u8 x.kind,.int .u64 (numP x)])):=by simp[Hid,numP,h5]
  clear h2 h3 h4;go_enter Tryz.func77,Tryz.ntmps77
  go_wp2
  go_region
  all_goals go_wp2
  all_goals go_ret2
  all_goals exact⟨e.out,(zi w _).drew⟩
 have e:Hid (Ending.returned (.tuple #[.int .u8 x.kind,.int .u64 x.n])=Ending.returned (.tuple #[.int .u8 x.kind,.int .u64 (numP x)])):=by simp[Hid,numP,h2,h3,h4,h5]
 have b2:(x.kind==2)=false:=by simp[h2]
 have b3:(x.kind==3)=false:=by simp[h3]
 have b4:(x.kind==4)=false:=by simp[h4]
 have b5:(x.kind==5)=false:=by simp[h5]
 clear h2 h3 h4 h5;go_enter Tryz.func77,Tryz.ntmps77
 go_wp2
 go_region
 all_goals go_wp2
 all_goals go_ret2
 all_goals exact⟨e.out,(zi w _).drew⟩
def gB (n v s x f:Nat):Prop:=s≤1∧v=s*32768+x*1024+f∧f<1024∧x≤31∧
 ((x=31∧f=0∧n=s*9223372036854775808+9218868437227405312)∨(x=0∧f=0∧n=s*9223372036854775808)∨
  (1≤x∧x≤30∧n=s*9223372036854775808+(x+1008)*4503599627370496+f*4398046511104)∨
  (x=0∧∃ t full,t<10∧2 ^ t≤f∧f<2 ^ (t+1)∧full=f*2 ^ (52-t)∧4503599627370496≤full∧n=s*9223372036854775808+(999+t)*4503599627370496+(full-4503599627370496)))
theorem nY (n v s x f:Nat) (h1:s≤1) (h2:v=s*32768+x*1024+f) (h3:f<1024) (h4:x≤31)
  (h:(x=31∧f=0∧n=s*9223372036854775808+9218868437227405312)∨(x=0∧f=0∧n=s*9223372036854775808)∨
  (1≤x∧x≤30∧n=s*9223372036854775808+(x+1008)*4503599627370496+f*4398046511104)∨
  (x=0∧∃ t full,t<10∧2 ^ t≤f∧f<2 ^ (t+1)∧full=f*2 ^ (52-t)∧4503599627370496≤full∧n=s*9223372036854775808+(999+t)*4503599627370496+(full-4503599627370496))):∃ s x f,gB n v s x f :=
 ⟨s,x,f,h1,h2,h3,h4,h⟩
theorem uF {n v:Nat}(hn:n<18446744073709551616) (h:yg n 5 10=some v):∃ s x f,gB n v s x f:=by
 obtain⟨ex,uU⟩:∃ ex,n/4503599627370496%2048=ex:=⟨_,rfl⟩
 obtain⟨mx,je⟩:∃ mx,n%4503599627370496=mx:=⟨_,rfl⟩
 obtain⟨sg,cI⟩:∃ sg,n/9223372036854775808=sg:=⟨_,rfl⟩
 have xE:sg≤1:=by omega
 have vE:n=sg*9223372036854775808+ex*4503599627370496+mx:=by omega
 have Sx:ex<2048:=by omega
 have rn:mx<4503599627370496:=by omega
 rw[yg]at h
 simp only[Nat.reducePow,Nat.reduceSub,Nat.reduceAdd,Nat.reduceMul,uU,je,cI]at h
 clear uU je cI hn
 split at h
 ·rename_i q1
  split at h
  ·rename_i q2
   injection h with h
   subst q1 q2
   exact nY _ _ _ _ _ xE (by omega) (by omega) (by omega) (.inl (And.intro rfl (And.intro rfl (by omega))))
  ·cases h
 rename_i c1
 split at h
 ·rename_i q1
  split at h
  ·rename_i q2
   injection h with h
   subst q1 q2
   exact nY _ _ _ 0 0 xE (by omega) (by omega) (by omega) (.inr (.inl (And.intro rfl (And.intro rfl (by rw[vE,Nat.zero_mul];simp only[Nat.add_zero])))))
  ·cases h
 rename_i c2
 split at h
 ·cases h
 rename_i c3
 split at h
 ·rename_i c4
  split at h
  ·rename_i c5
   injection h with h
   obtain⟨x,hx⟩:∃ x,ex=x+1008:=⟨ex-1008,by omega⟩
   obtain⟨f,hf⟩:∃ f,mx=f*4398046511104:=⟨mx/4398046511104,by omega⟩
   subst hx hf
   exact nY _ _ _ x f xE (by omega) (by omega) (by omega) (.inr (.inr (.inl (And.intro (by omega) (And.intro (by omega) vE)))))
  ·cases h
 rename_i c4
 split at h
 ·cases h
 rename_i c5
 split at h
 ·rename_i c6
  injection h with h
  obtain⟨t,ht⟩:∃ t,ex=999+t:=⟨ex-999,by omega⟩
  have cJ:43+(1023-ex-15)=52-t:=by omega
  rw[cJ]at h c6;obtain⟨f,hf⟩:∃ f,(mx+4503599627370496)/2 ^ (52-t)=f:=⟨_,rfl⟩
  have uJ:mx+4503599627370496=f*2 ^ (52-t):=by
   rw[← hf,Nat.div_mul_cancel (Nat.dvd_of_mod_eq_zero c6)]
  have yI:0<2 ^ (52-t):=Nat.two_pow_pos _
  have e1:2 ^ t*2 ^ (52-t)=4503599627370496:=by
   rw[← Nat.pow_add,show t+(52-t)=52 by omega]
  have e2:2 ^ (t+1)*2 ^ (52-t)=9007199254740992:=by
   rw[← Nat.pow_add,show t+1+(52-t)=53 by omega]
  have b1:2 ^ t≤f:=by
   apply Nat.le_of_mul_le_mul_right _ yI
   omega
  have b2:f<2 ^ (t+1):=by
   apply Nat.lt_of_mul_lt_mul_right (a:=2 ^ (52-t))
   omega
  have b3:2 ^ (t+1)≤2 ^ 10:=Nat.pow_le_pow_right (by omega) (by omega)
  simp only[Nat.reducePow]at b3
  rw[hf]at h;have cG:n=sg*9223372036854775808+(999+t)*4503599627370496+(mx+4503599627370496-4503599627370496):=by rw[vE,ht,Nat.add_sub_cancel]
  exact nY _ _ _ 0 f xE (by omega) (by omega) (by omega) (.inr (.inr (.inr (And.intro rfl ⟨t,mx+4503599627370496,by omega,b1,b2,uJ,by omega,cG⟩))))
 ·cases h
theorem dK {f t t':Nat}(h1:2 ^ t≤f) (h2:f<2 ^ (t+1)) (h3:2 ^ t'≤f) (h4:f<2 ^ (t'+1)):t=t':=by
 rcases Nat.lt_trichotomy t t' with h | h | h
 ·have:2 ^ (t+1)≤2 ^ t':=Nat.pow_le_pow_right (by omega) h
  omega
 ·exact h
 ·have:2 ^ (t'+1)≤2 ^ t:=Nat.pow_le_pow_right (by omega) h
  omega
theorem gm {n n' v:Nat}(hn:n<18446744073709551616) (cG:n'<18446744073709551616) (h:yg n 5 10=some v) (h':yg n' 5 10=some v):n=n':=by
 obtain⟨s,x,f,a1,a2,a3,a4,a5⟩:=uF hn h;obtain⟨s',x',f',b1,b2,b3,b4,b5⟩:=uF cG h';obtain rfl:s=s':=by omega
 obtain rfl:x=x':=by omega
 obtain rfl:f=f':=by omega
 rcases a5 with ⟨c1,c2,c3⟩ | ⟨c1,c2,c3⟩ | ⟨c1,c2,c3⟩ | ⟨c1,t,full,c2,c3,c4,c5,c6,c7⟩ <;> rcases b5 with ⟨d1,d2,d3⟩ | ⟨d1,d2,d3⟩ | ⟨d1,d2,d3⟩ | ⟨d1,t',full',d2,d3,d4,d5,d6,d7⟩
 all_goals try omega
 ·obtain rfl:=dK c3 c4 d3 d4;rw[← c5]at d5
  omega
theorem ew {n v:Nat}(hn:n<18446744073709551616) (h:yg n 5 10=some v):v<65536:=by
 obtain⟨s,x,f,a1,a2,a3,a4,a5⟩:=uF hn h
 omega
def ru (n v s x f:Nat):Prop:=s≤1∧v=s*2147483648+x*8388608+f∧f<8388608∧x≤255∧
 ((x=255∧f=0∧n=s*9223372036854775808+9218868437227405312)∨(x=0∧f=0∧n=s*9223372036854775808)∨
  (1≤x∧x≤254∧n=s*9223372036854775808+(x+896)*4503599627370496+f*536870912)∨
  (x=0∧∃ t full,t<23∧2 ^ t≤f∧f<2 ^ (t+1)∧full=f*2 ^ (52-t)∧4503599627370496≤full∧n=s*9223372036854775808+(874+t)*4503599627370496+(full-4503599627370496)))
theorem nZ (n v s x f:Nat) (h1:s≤1) (h2:v=s*2147483648+x*8388608+f) (h3:f<8388608) (h4:x≤255)
  (h:(x=255∧f=0∧n=s*9223372036854775808+9218868437227405312)∨(x=0∧f=0∧n=s*9223372036854775808)∨
  (1≤x∧x≤254∧n=s*9223372036854775808+(x+896)*4503599627370496+f*536870912)∨
  (x=0∧∃ t full,t<23∧2 ^ t≤f∧f<2 ^ (t+1)∧full=f*2 ^ (52-t)∧4503599627370496≤full∧n=s*9223372036854775808+(874+t)*4503599627370496+(full-4503599627370496))):∃ s x f,ru n v s x f :=
 ⟨s,x,f,h1,h2,h3,h4,h⟩
theorem tK {n v:Nat}(hn:n<18446744073709551616) (h:yg n 8 23=some v):∃ s x f,ru n v s x f:=by
 obtain⟨ex,uU⟩:∃ ex,n/4503599627370496%2048=ex:=⟨_,rfl⟩
 obtain⟨mx,je⟩:∃ mx,n%4503599627370496=mx:=⟨_,rfl⟩
 obtain⟨sg,cI⟩:∃ sg,n/9223372036854775808=sg:=⟨_,rfl⟩
 have xE:sg≤1:=by omega
 have vE:n=sg*9223372036854775808+ex*4503599627370496+mx:=by omega
 have Sx:ex<2048:=by omega
 have rn:mx<4503599627370496:=by omega
 rw[yg]at h
 simp only[Nat.reducePow,Nat.reduceSub,Nat.reduceAdd,Nat.reduceMul,uU,je,cI]at h
 clear uU je cI hn
 split at h
 ·rename_i q1
  split at h
  ·rename_i q2
   injection h with h
   subst q1 q2
   exact nZ _ _ _ _ _ xE (by omega) (by omega) (by omega) (.inl (And.intro rfl (And.intro rfl (by omega))))
  ·cases h
 rename_i c1
 split at h
 ·rename_i q1
  split at h
  ·rename_i q2
   injection h with h
   subst q1 q2
   exact nZ _ _ _ 0 0 xE (by omega) (by omega) (by omega) (.inr (.inl (And.intro rfl (And.intro rfl (by rw[vE,Nat.zero_mul];simp only[Nat.add_zero])))))
  ·cases h
 rename_i c2
 split at h
 ·cases h
 rename_i c3
 split at h
 ·rename_i c4
  split at h
  ·rename_i c5
   injection h with h
   obtain⟨x,hx⟩:∃ x,ex=x+896:=⟨ex-896,by omega⟩
   obtain⟨f,hf⟩:∃ f,mx=f*536870912:=⟨mx/536870912,by omega⟩
   subst hx hf
   exact nZ _ _ _ x f xE (by omega) (by omega) (by omega) (.inr (.inr (.inl (And.intro (by omega) (And.intro (by omega) vE)))))
  ·cases h
 rename_i c4
 split at h
 ·cases h
 rename_i c5
 split at h
 ·rename_i c6
  injection h with h
  obtain⟨t,ht⟩:∃ t,ex=874+t:=⟨ex-874,by omega⟩
  have cJ:30+(1023-ex-127)=52-t:=by omega
  rw[cJ]at h c6;obtain⟨f,hf⟩:∃ f,(mx+4503599627370496)/2 ^ (52-t)=f:=⟨_,rfl⟩
  have uJ:mx+4503599627370496=f*2 ^ (52-t):=by
   rw[← hf,Nat.div_mul_cancel (Nat.dvd_of_mod_eq_zero c6)]
  have yI:0<2 ^ (52-t):=Nat.two_pow_pos _
  have e1:2 ^ t*2 ^ (52-t)=4503599627370496:=by
   rw[← Nat.pow_add,show t+(52-t)=52 by omega]
  have e2:2 ^ (t+1)*2 ^ (52-t)=9007199254740992:=by
   rw[← Nat.pow_add,show t+1+(52-t)=53 by omega]
  have b1:2 ^ t≤f:=by
   apply Nat.le_of_mul_le_mul_right _ yI
   omega
  have b2:f<2 ^ (t+1):=by
   apply Nat.lt_of_mul_lt_mul_right (a:=2 ^ (52-t))
   omega
  have b3:2 ^ (t+1)≤2 ^ 23:=Nat.pow_le_pow_right (by omega) (by omega)
  simp only[Nat.reducePow]at b3
  rw[hf]at h;have cG:n=sg*9223372036854775808+(874+t)*4503599627370496+(mx+4503599627370496-4503599627370496):=by rw[vE,ht,Nat.add_sub_cancel]
  exact nZ _ _ _ 0 f xE (by omega) (by omega) (by omega) (.inr (.inr (.inr (And.intro rfl ⟨t,mx+4503599627370496,by omega,b1,b2,uJ,by omega,cG⟩))))
 ·cases h
theorem dL {f t t':Nat}(h1:2 ^ t≤f) (h2:f<2 ^ (t+1)) (h3:2 ^ t'≤f) (h4:f<2 ^ (t'+1)):t=t':=by
 rcases Nat.lt_trichotomy t t' with h | h | h
 ·have:2 ^ (t+1)≤2 ^ t':=Nat.pow_le_pow_right (by omega) h
  omega
 ·exact h
 ·have:2 ^ (t'+1)≤2 ^ t:=Nat.pow_le_pow_right (by omega) h
  omega
theorem gn {n n' v:Nat}(hn:n<18446744073709551616) (cG:n'<18446744073709551616) (h:yg n 8 23=some v) (h':yg n' 8 23=some v):n=n':=by
 obtain⟨s,x,f,a1,a2,a3,a4,a5⟩:=tK hn h;obtain⟨s',x',f',b1,b2,b3,b4,b5⟩:=tK cG h';obtain rfl:s=s':=by omega
 obtain rfl:x=x':=by omega
 obtain rfl:f=f':=by omega
 rcases a5 with ⟨c1,c2,c3⟩ | ⟨c1,c2,c3⟩ | ⟨c1,c2,c3⟩ | ⟨c1,t,full,c2,c3,c4,c5,c6,c7⟩ <;> rcases b5 with ⟨d1,d2,d3⟩ | ⟨d1,d2,d3⟩ | ⟨d1,d2,d3⟩ | ⟨d1,t',full',d2,d3,d4,d5,d6,d7⟩
 all_goals try omega
 ·obtain rfl:=dL c3 c4 d3 d4;rw[← c5]at d5
  omega
theorem ez {n v:Nat}(hn:n<18446744073709551616) (h:yg n 8 23=some v):v<4294967296:=by
 obtain⟨s,x,f,a1,a2,a3,a4,a5⟩:=tK hn h
 omega
theorem nS {n:Nat}(hn:n<18446744073709551616):yg n 5 10≠some 32256:=by
 intro h
 obtain⟨s,x,f,a1,a2,a3,a4,a5⟩:=uF hn h
 rcases a5 with ⟨c1,c2,c3⟩ | ⟨c1,c2,c3⟩ | ⟨c1,c2,c3⟩ | ⟨c1,t,full,c2,c3,c4,c5,c6,c7⟩ <;> omega
def lY (n:Nat):Prop:=n<18446744073709551616∧(isNaN n=true→n=zT)
theorem cV {n m:Nat}(hn:lY n) (hm:lY m) {r s:List UInt8}(h:zF n++r=zF m++s):n=m∧r=s:=by
 have key:∀ n,lY n→(∃ v,zF n=[u8 249,u8 (v/256),u8 v]∧v<65536∧((isNaN n=true∧v=32256)∨(isNaN n=false∧yg n 5 10=some v)))∨
   (∃ v,zF n=[u8 250,u8 (v/16777216),u8 (v/65536),u8 (v/256),u8 v]∧v<4294967296∧yg n 8 23=some v)∨zF n=u8 251::be8 n 8:=by
  intro n hn
  unfold zF
  by_cases h1:isNaN n=true
  ·rw[if_pos h1]
   exact .inl ⟨32256,rfl,by omega,.inl ⟨h1,rfl⟩⟩
  ·rw[if_neg h1]
   cases h2:yg n 5 10 with
   | some v=>exact .inl ⟨v,rfl,ew hn.1 h2,.inr ⟨by simpa using h1,rfl⟩⟩
   | none =>
    cases h3:yg n 8 23 with
    | some v=>exact .inr (.inl ⟨v,rfl,ez hn.1 h3,rfl⟩)
    | none=>exact .inr (.inr rfl)
 rcases key n hn with ⟨v,e,hv,hc⟩ | ⟨v,e,hv,hc⟩ | e <;> rcases key m hm with ⟨v',e',XH,Uw⟩ | ⟨v',e',XH,Uw⟩ | e' <;> rw[e,e']at h <;> simp only[List.cons_append,List.nil_append]at h <;> injection h with h0 h
 any_goals (have:=vY h0;omega)
 ·obtain⟨h1,h2,h3⟩:=nj h;have h1:=vY h1;have h2:=vY h2;obtain rfl:v=v':=by omega
  refine⟨?_,h3⟩
  rcases hc with ⟨c1,c2⟩ | ⟨c1,c2⟩ <;> rcases Uw with ⟨d1,d2⟩ | ⟨d1,d2⟩
  ·rw[hn.2 c1,hm.2 d1]
  ·rw[c2]at d2;exact absurd d2 (nS hm.1)
  ·rw[d2]at c2;exact absurd c2 (nS hn.1)
  ·exact gm hn.1 hm.1 c2 d2
 ·obtain⟨h1,h2,h3⟩:=nj h;obtain⟨h4,h5,h6⟩:=nj h3;have h1:=vY h1;have h2:=vY h2;have h4:=vY h4;have h5:=vY h5;have g0:v/16777216=v'/16777216:=by omega
  have g1:v/65536=v'/65536:=by omega
  have g2:v/256=v'/256:=by omega
  obtain rfl:v=v':=by omega
  exact⟨gn hn.1 hm.1 hc Uw,h6⟩
 ·obtain⟨h1,h2⟩:=List.append_inj h (by rw[vR,vR])
  exact⟨YS hn.1 hm.1 h1,h2⟩
theorem oh {x:Itm}(h8:x.kind=8) (h:yq x=true) (hn:Nums x):lY x.n:=by
 refine⟨hn.n_,fun hq=>?_⟩
 simp[yq,h8,hq]at h
 exact h.2
theorem jy {x:Itm}(h:0≤x.kind∧x.kind≤8) (h8:x.kind≠8) (h7:¬ (x.kind=7∧24≤x.n)) (r:List UInt8):zd x++r=zm x.kind.toNat (numP x)++(x.bytes++(zB x.items++r)):=by
 rw[xf,if_neg h8,if_neg h7,List.append_assoc,List.append_assoc]
structure Fits (x:Itm) (lv:Nat):Prop where
 good:Good x lv
 small:Small x
 nums:Nums x
 cnt:cnt x≤256
theorem Fits.of {x:Itm}(h:yW x=true) (hn:Nums x):Fits x 0:=by
 rw[uz]at h
 exact⟨h.1,h.1.small h.2.2,hn,h.2.1⟩
theorem SmallL.get:∀ {l:List Itm},SmallL l→∀ x∈l,Small x
 | [],_,x,hx=>by cases hx
 | y::l,h,x,hx=>by
  rw[SmallL]at h
  rcases List.mem_cons.1 hx with rfl | hx
  ·exact h.1
  ·exact h.2.get x hx
theorem Small.items {x:Itm}(h:Small x):SmallL x.items:=by cases x;rw[Small]at h;exact h.2
theorem Small.bytes {x:Itm}(h:Small x):x.bytes.length≤4096:=by cases x;rw[Small]at h;exact h.1
theorem Fits.elem {x y:Itm}{lv:Nat}(h:Fits x lv) (hy:y∈x.items):Fits y (lv+1) :=
 ⟨h.good.items.get y hy,h.small.items.get y hy,h.nums.items.get y hy,by have:=kX hy;have:=pm x;have:=h.cnt;omega⟩
theorem Fits.numP {x:Itm}{lv:Nat}(h:Fits x lv):numP x<18446744073709551616:=by
 have h1:=h.small.bytes;have h2:=nW x.items;have h3:=pm x;have h4:=h.cnt;have h5:=h.nums.n_
 unfold Proofs.YtnlinmoiakgedaaGreatDoor.numP
 repeat' split
 all_goals omega
theorem fZ {x:Itm}{lv:Nat}(h:Good x lv) (hk:4≤x.kind∧x.kind≤6):vj x lv=true:=by
 rcases xL h.node with ⟨h1,_⟩ | ⟨_,h1⟩
 ·rw[z8]at h1;omega
 ·exact h1
theorem ng {x:Itm}{lv:Nat}(h:Good x lv) (hk:x.kind=0∨x.kind=1∨x.kind=2∨x.kind=3∨x.kind=7∨x.kind=8):yq x=true:=by
 rcases xL h.node with ⟨_,h1⟩ | ⟨h1,_⟩
 ·exact h1
 ·rw[(z8 x).2 hk]at h1;cases h1
theorem bf {x:Itm}(h:qK x=7):x.kind=7∨x.kind=8:=by
 unfold qK at h
 by_cases h8:x.kind=8
 ·exact .inr h8
 ·rw[if_neg h8]at h;omega
theorem Yk {x:Itm}(h:x.kind=8):qK x=7:=by rw[qK,if_pos h]
theorem U2 {x:Itm}(h:x.kind=7):qK x=7:=by rw[qK,if_neg (by omega)];omega
theorem be {x:Itm}(h:x.kind≠8):qK x=x.kind.toNat:=by rw[qK,if_neg h]
mutual
theorem fV:∀ (x y:Itm) (lv lv':Nat) (r s:List UInt8),Fits x lv→Fits y lv'→zd x++r=zd y++s→x=y∧r=s
 | .mk k n bs l,y,lv,lv',r,s,hx,hy,h=>by
  have T4:=rp hx.good.node;have Xa:=rp hy.good.node;have ht:=U3 T4 Xa h;have T8:=hx.numP;have Lu:=hy.numP
  by_cases h7:qK (.mk k n bs l)=7
  ·-- simple values and floats
   have ky:y.kind=7∨y.kind=8:=by
    rw[h7]at ht
    exact bf ht.symm
   have kx:k=7∨k=8:=by
    have h7:=bf h7
    simp only[Itm.kind]at h7 T4
    omega
   have ox:=ng hx.good (by simp only[Itm.kind];omega);have oy:=ng hy.good (by omega);have F8:∀ z:Itm,z.kind=8→zd z=zF z.n:=fun z hz=>by rw[xf,if_pos hz]
   have F7:∀ z:Itm,z.kind=7→yq z=true→z.n<256∧z.bytes=[]∧z.items=[]∧((24≤z.n∧zd z=[u8 248,u8 z.n])∨(z.n<24∧zd z=[u8 (224+z.n)])):=by
    intro z hz ho
    have hi:=xp ((z8 z).2 (by omega)) ho;have hb:=hi.2 (by omega);have hn:z.n<256:=by simp[yq,hz]at ho;omega
    refine⟨hn,hb,hi.1, ?_⟩
    by_cases ta:24≤z.n
    ·exact .inl ⟨ta,by rw[xf,if_neg (by omega),if_pos ⟨hz,ta⟩]⟩
    ·refine .inr ⟨by omega, ?_⟩
     have hp:Proofs.YtnlinmoiakgedaaGreatDoor.numP z=z.n:=by simp[Proofs.YtnlinmoiakgedaaGreatDoor.numP,hz]
     rw[xf,if_neg (by omega),if_neg (by omega),hb,hi.1,zB,hp,zm,if_pos (by omega),hz];rfl
   have G8:∀ z:Itm,z.kind=8→yq z=true→z.bytes=[]∧z.items=[]:=by
    intro z hz ho
    have hi:=xp ((z8 z).2 (by omega)) ho
    exact⟨hi.2 (by omega),hi.1⟩
   obtain⟨k',n',bs',l'⟩:=y
   simp only[Itm.kind]at ky
   rcases kx with rfl | rfl <;> rcases ky with rfl | rfl
   ·obtain⟨a1,a2,a3,a4⟩:=F7 _ rfl ox;obtain⟨b1,b2,b3,b4⟩:=F7 _ rfl oy
    simp only[Itm.n,Itm.bytes,Itm.items]at *
    subst a2 a3 b2 b3
    rcases a4 with ⟨a4,a5⟩ | ⟨a4,a5⟩ <;> rcases b4 with ⟨b4,b5⟩ | ⟨b4,b5⟩ <;> rw[a5,b5]at h <;> simp only[List.cons_append,List.nil_append]at h
    ·obtain⟨_,h2,h3⟩:=nj h;have:=vY h2
     exact⟨by congr 1;omega,h3⟩
    ·injection h with h1 _
     have:=vY h1
     omega
    ·injection h with h1 _
     have:=vY h1
     omega
    ·injection h with h1 h2
     have:=vY h1
     exact⟨by congr 1;omega,h2⟩
   ·obtain⟨_,_,_,a4⟩:=F7 _ rfl ox;rw[F8 (.mk 8 n' bs' l') rfl]at h;obtain⟨c,t,e,c1,c2⟩:=pc n'
    simp only[Itm.n]at h a4
    rw[e]at h
    rcases a4 with ⟨a4,a5⟩ | ⟨a4,a5⟩ <;> rw[a5]at h <;> simp only[List.cons_append,List.nil_append]at h <;> injection h with h1 _ <;> have:=vY h1 <;> omega
   ·obtain⟨_,_,_,a4⟩:=F7 _ rfl oy;rw[F8 (.mk 8 n bs l) rfl]at h;obtain⟨c,t,e,c1,c2⟩:=pc n
    simp only[Itm.n]at h a4
    rw[e]at h
    rcases a4 with ⟨a4,a5⟩ | ⟨a4,a5⟩ <;> rw[a5]at h <;> simp only[List.cons_append,List.nil_append]at h <;> injection h with h1 _ <;> have:=vY h1 <;> omega
   ·rw[F8 (.mk 8 n bs l) rfl,F8 (.mk 8 n' bs' l') rfl]at h;obtain⟨a1,a2⟩:=G8 _ rfl ox;obtain⟨b1,b2⟩:=G8 _ rfl oy;obtain⟨h1,h2⟩:=cV (oh rfl ox hx.nums) (oh rfl oy hy.nums) h
    simp only[Itm.n,Itm.bytes,Itm.items]at *
    subst a1 a2 b1 b2 h1 h2
    exact⟨rfl,rfl⟩
  ·have LM:qK y≠7:=by rw[← ht];exact h7
   have kx:k≠8∧k≠7:=by
    constructor
    ·intro h8;exact h7 (Yk h8)
    ·intro h8;exact h7 (U2 h8)
   have ky:y.kind=k:=by
    have a1:=be (x:=.mk k n bs l) kx.1;have a2:=be (x:=y) (fun h8=>LM (Yk h8))
    simp only[Itm.kind]at a1 T4
    omega
   rw[jy T4 kx.1 (fun h=>kx.2 h.1),jy Xa (by rw[ky];exact kx.1) (fun h=>kx.2 (by rw[← ky];exact h.1)),ky]at h
   simp only[Itm.kind,Itm.bytes,Itm.items]at h T4
   obtain⟨_,m8,hz⟩:=a7 (by omega) (by omega) T8 Lu h;obtain⟨k',n',bs',l'⟩:=y
   simp only[Itm.kind]at ky
   subst ky
   simp only[Proofs.YtnlinmoiakgedaaGreatDoor.numP,Itm.kind,Itm.n,Itm.bytes,Itm.items]at m8 hz
   by_cases hp:k'=0∨k'=1∨k'=2∨k'=3
   ·have ox:=ng hx.good (by simp only[Itm.kind];omega);have oy:=ng hy.good (by simp only[Itm.kind];omega);have ix:=(xp ((z8 _).2 (by simp only[Itm.kind];omega)) ox).1;have iy:=(xp ((z8 _).2 (by simp only[Itm.kind];omega)) oy).1
    simp only[Itm.items]at ix iy
    subst ix iy;rw[zB,List.nil_append,List.nil_append]at hz
    rcases hp with rfl | rfl | rfl | rfl
    ·simp[yq,Itm.kind,Itm.bytes,Itm.items]at ox oy m8
     subst ox oy m8
     exact⟨rfl,by simpa using hz⟩
    ·simp[yq,Itm.kind,Itm.bytes,Itm.items]at ox oy m8
     subst ox oy m8
     exact⟨rfl,by simpa using hz⟩
    ·simp[yq,Itm.kind,Itm.bytes,Itm.items,Itm.n]at ox oy m8
     obtain⟨h1,h2⟩:=List.append_inj hz m8;subst ox oy h1 h2
     exact⟨rfl,rfl⟩
    ·simp[yq,Itm.kind,Itm.bytes,Itm.items,Itm.n]at ox oy m8
     obtain⟨h1,h2⟩:=List.append_inj hz m8;obtain⟨ox,_⟩:=ox;obtain⟨oy,_⟩:=oy;subst ox oy h1 h2
     exact⟨rfl,rfl⟩
   ·have fx:=x8 (fZ hx.good (by simp only[Itm.kind];omega));have fy:=x8 (fZ hy.good (by simp only[Itm.kind];omega))
    simp only[Itm.kind,Itm.bytes,Itm.items,Itm.n,List.length_eq_zero_iff]at fx fy
    obtain⟨_,_,_,hb,x6,xn,x5⟩:=fx;obtain⟨_,_,_,QZ,y6,yn,y5⟩:=fy;subst hb QZ;rw[List.nil_append,List.nil_append]at hz
    have lp:l.length=l'.length∧n=n':=by
     by_cases e4:k'=4
     ·have:=xn (by omega);have:=yn (by omega)
      simp[e4]at m8
      omega
     by_cases e5:k'=5
     ·have:=xn (by omega);have:=yn (by omega);have:=x5 e5;have:=y5 e5
      simp[e5]at m8
      omega
     ·have e6:k'=6:=by omega
      have:=x6 e6;have:=y6 e6
      simp[e6]at m8
      omega
    obtain⟨h1,h2⟩:=fW l l' (lv+1) (lv'+1) r s lp.1 (fun z hz'=>hx.elem hz') (fun z hz'=>hy.elem hz') hz
    exact⟨by rw[h1,lp.2],h2⟩
theorem fW:∀ (l m:List Itm) (lv lv':Nat) (r s:List UInt8),l.length=m.length→(∀ x∈l,Fits x lv)→(∀ x∈m,Fits x lv')→zB l++r=zB m++s→l=m∧r=s
 | [],[],_,_,r,s,_,_,_,h=>by
  rw[zB,List.nil_append,List.nil_append]at h
  exact⟨rfl,h⟩
 | [],_::_,_,_,_,_,hl,_,_,_=>by simp at hl
 | _::_,[],_,_,_,_,hl,_,_,_=>by simp at hl
 | x::l,y::m,lv,lv',r,s,hl,hx,hy,h=>by
  rw[zB,zB,List.append_assoc,List.append_assoc]at h;obtain⟨h1,h2⟩:=fV x y lv lv' _ _ (hx x (by simp)) (hy y (by simp)) h;obtain⟨h3,h4⟩:=fW l m lv lv' r s (by simpa using hl) (fun z hz=>hx z (by simp[hz])) (fun z hz=>hy z (by simp[hz])) h2
  exact⟨by rw[h1,h3],h4⟩
end
theorem ld {n t:Nat}(h1:2 ^ t≤n) (h2:n<2 ^ (t+1)):n.log2=t:=by
 have hn:n≠0:=by have:=Nat.two_pow_pos t;omega
 have a:=(Nat.le_log2 hn).2 h1;have b:=(Nat.log2_lt hn).2 h2
 omega
theorem pJ (neg:Bool) (q d:Nat) (h:d≤(q*2 ^ d).log2+2):Ieee.Toward.even.cut neg (q*2 ^ d) d=q:=by
 have hg:(1:Nat) <<< min d ((q*2 ^ d).log2+2)=2 ^ d:=by rw[Nat.min_eq_left h,Nat.shiftLeft_eq,Nat.one_mul]
 have hp:0<2 ^ d:=Nat.two_pow_pos d;have h1:q*2 ^ d/2 ^ d=q:=Nat.mul_div_cancel _ hp;have h2:q*2 ^ d%2 ^ d=0:=Nat.mul_mod_left _ _
 unfold Ieee.Toward.cut
 simp only[hg,h1,h2]
 have e1:decide (2 ^ d<2*0)=false:=by simp
 have e2:(2 ^ d==2*0)=false:=by rw[beq_eq_false_iff_ne];omega
 rw[e1,e2]
 simp
theorem jN {r:Nat}(hr:r<4294967296) (hn:(Ieee.single.read r).isNaN=false):∃ n s x f,n<18446744073709551616∧ru n r s x f:=by
 obtain⟨s,hs⟩:∃ s,r/2147483648=s:=⟨_,rfl⟩
 obtain⟨x,hx⟩:∃ x,r/8388608%256=x:=⟨_,rfl⟩
 obtain⟨f,hf⟩:∃ f,r%8388608=f:=⟨_,rfl⟩
 have xE:s≤1:=by omega
 have pD:x≤255:=by omega
 have nG:f<8388608:=by omega
 have hv:r=s*2147483648+x*8388608+f:=by omega
 by_cases h1:x=255
 ·by_cases h0:f=0
  ·exact⟨s*9223372036854775808+9218868437227405312,s,x,f,by omega,xE,by omega,by omega,by omega,.inl ⟨h1,h0,rfl⟩⟩
  ·exfalso
   have e1:Ieee.single.signWeight=2147483648:=rfl;have e2:Ieee.single.binade=8388608:=rfl;have e3:Ieee.single.infRung=2139095040:=rfl
   unfold Ieee.Format.read at hn
   rw[e1,e2,e3]at hn
   simp only[show ¬ r%2147483648<8388608 by omega,show ¬ r%2147483648<2139095040 by omega,show ¬ r%2147483648=2139095040 by omega,if_false]at hn
   cases hn
 by_cases h2:x=0
 ·by_cases h0:f=0
  ·exact⟨s*9223372036854775808,s,x,f,by omega,xE,by omega,by omega,by omega,.inr (.inl ⟨h2,h0,rfl⟩)⟩
  ·have a1:2 ^ f.log2≤f:=Nat.log2_self_le h0;have a2:f<2 ^ (f.log2+1):=Nat.lt_log2_self;have a3:f.log2<23:=(Nat.log2_lt h0).2 (by simpa using nG)
   generalize f.log2=t at a1 a2 a3
   have e1:2 ^ t*2 ^ (52-t)=4503599627370496:=by
    rw[← Nat.pow_add,show t+(52-t)=52 by omega]
   have e2:2 ^ (t+1)*2 ^ (52-t)=9007199254740992:=by
    rw[← Nat.pow_add,show t+1+(52-t)=53 by omega]
   have b1:=Nat.mul_le_mul_right (2 ^ (52-t)) a1;have b2:=Nat.mul_lt_mul_of_pos_right a2 (Nat.two_pow_pos (52-t))
   refine⟨s*9223372036854775808+(874+t)*4503599627370496+(f*2 ^ (52-t)-4503599627370496),s,x,f,by omega,xE,by omega,by omega,by omega,.inr (.inr (.inr ⟨h2,t,_,a3,a1,a2,rfl,by omega,rfl⟩))⟩
 ·exact⟨s*9223372036854775808+(x+896)*4503599627370496+f*536870912,s,x,f,by omega,xE,by omega,by omega,by omega,.inr (.inr (.inl ⟨by omega,by omega,rfl⟩))⟩
theorem iJ (s r:Nat) (hs:s≤1):Ieee.double.word (s%2==1) r=s*9223372036854775808+r:=by
 have e:Ieee.double.signWeight=9223372036854775808:=rfl
 unfold Ieee.Format.word
 rcases(by omega:s=0∨s=1) with rfl | rfl <;> simp[e]
theorem iK (s r:Nat) (hs:s≤1):Ieee.single.word (s%2==1) r=s*2147483648+r:=by
 have e:Ieee.single.signWeight=2147483648:=rfl
 unfold Ieee.Format.word
 rcases(by omega:s=0∨s=1) with rfl | rfl <;> simp[e]
theorem de {n v s x f:Nat}(h:ru n v s x f):Ieee.single.read v=if x=255 then .infinity (s%2==1) else if x=0 then .number (s%2==1) f (-149) else .number (s%2==1) (8388608+f) ((x:Int)-150):=by
 obtain⟨a1,a2,a3,a4,a5⟩:=h;have e1:Ieee.single.signWeight=2147483648:=rfl;have e2:Ieee.single.binade=8388608:=rfl;have e3:Ieee.single.infRung=2139095040:=rfl;have e4:Ieee.single.leastPlace = -149:=rfl;have hd:v/2147483648=s:=by omega
 have hm:v%2147483648=x*8388608+f:=by omega
 unfold Ieee.Format.read
 rw[e1,e2,e3,e4,hd,hm]
 simp only
 by_cases h0:x=0
 ·rw[if_pos (by omega),if_neg (by omega),if_pos h0,h0];simp
 rw[if_neg (by omega)]
 by_cases h1:x=255
 ·have:f=0:=by omega
  rw[if_neg (by omega),if_pos (by omega),if_pos h1]
 ·rw[if_pos (by omega),if_neg h1,if_neg h0];congr 1
  ·omega
  ·omega
theorem iG {n v s x f:Nat}(h:ru n v s x f):∃ e m,e≤2047∧m<4503599627370496∧n=s*9223372036854775808+e*4503599627370496+m∧
  (x=255→e=2047∧m=0)∧(x=0∧f=0→e=0∧m=0)∧(1≤x∧x≤254→e=x+896∧m=f*536870912)∧(x=0∧0<f→∃ t,t<23∧2 ^ t≤f∧f<2 ^ (t+1)∧e=874+t∧m+4503599627370496=f*2 ^ (52-t))∧
  Ieee.double.read n=if e=2047 then .infinity (s%2==1) else if e=0 then .number (s%2==1) m (-1074) else .number (s%2==1) (4503599627370496+m) ((e:Int)-1075):=by
 obtain⟨a1,a2,a3,a4,a5⟩:=h
 have key:∀ e m,e≤2047→m<4503599627370496→(e=2047→m=0)→n=s*9223372036854775808+e*4503599627370496+m→Ieee.double.read n=if e=2047 then .infinity (s%2==1) else if e=0 then .number (s%2==1) m (-1074) else .number (s%2==1) (4503599627370496+m) ((e:Int)-1075):=by
  intro e m he hm h7 hn
  have e1:Ieee.double.signWeight=9223372036854775808:=rfl;have e2:Ieee.double.binade=4503599627370496:=rfl;have e3:Ieee.double.infRung=9218868437227405312:=rfl;have e4:Ieee.double.leastPlace = -1074:=rfl;have hd:n/9223372036854775808=s:=by omega
  have Xb:n%9223372036854775808=e*4503599627370496+m:=by omega
  unfold Ieee.Format.read
  rw[e1,e2,e3,e4,hd,Xb]
  simp only
  by_cases h0:e=0
  ·rw[if_pos (by omega),if_neg (by omega),if_pos h0,h0];simp
  rw[if_neg (by omega)]
  by_cases h1:e=2047
  ·have:=h7 h1;rw[if_neg (by omega),if_pos (by omega),if_pos h1]
  ·rw[if_pos (by omega),if_neg h1,if_neg h0];congr 1
   ·omega
   ·omega
 rcases a5 with ⟨c1,c2,c3⟩ | ⟨c1,c2,c3⟩ | ⟨c1,c2,c3⟩ | ⟨c1,t,full,c2,c3,c4,c5,c6,c7⟩
 ·exact⟨2047,0,by omega,by omega,by omega,fun _=>⟨rfl,rfl⟩,by omega,by omega,by omega,key 2047 0 (by omega) (by omega) (fun _=>rfl) (by omega)⟩
 ·have C3:n=s*9223372036854775808+0*4503599627370496+0:=by rw[c3];simp only[Nat.zero_mul,Nat.add_zero]
  have C3:=Hh C3;clear c3;have x1:x≠255:=by omega
  have x3:¬ (1≤x∧x≤254):=by omega
  have x4:¬ (x=0∧0<f):=by omega
  exact⟨0,0,by omega,by omega,C3.out,fun h=>absurd h x1,fun _=>⟨rfl,rfl⟩,fun h=>absurd h x3,fun h=>absurd h x4,key 0 0 (by omega) (by omega) (by omega) C3.out⟩
 ·have C3:=Hh c3;clear c3;have t1:x+896≤2047:=by omega
  have t2:x+896≠2047:=by omega
  have m1:f*536870912<4503599627370496:=by omega
  have x1:x≠255:=by omega
  have x2:x≠0:=by omega
  exact⟨x+896,f*536870912,t1,m1,C3.out,fun h=>absurd h x1,fun h=>absurd h.1 x2,fun _=>⟨rfl,rfl⟩,fun h=>absurd h.1 x2,key _ _ t1 m1 (fun h=>absurd h t2) C3.out⟩
 ·have hp:0<f:=by have:=Nat.two_pow_pos t;omega
  have e2:2 ^ (t+1)*2 ^ (52-t)=9007199254740992:=by
   rw[← Nat.pow_add,show t+1+(52-t)=53 by omega]
  have b2:=Nat.mul_lt_mul_of_pos_right c4 (Nat.two_pow_pos (52-t));rw[e2,← c5]at b2;have C7:=Hh c7;clear c7;have m1:full-4503599627370496<4503599627370496:=by clear a2;omega
  have m2:full-4503599627370496+4503599627370496=f*2 ^ (52-t):=by rw[← c5];clear a2;omega
  have t1:874+t≤2047:=by omega
  have t2:874+t≠2047:=by omega
  have x1:x≠255:=by omega
  have x2:¬ (x=0∧f=0):=by omega
  have x3:¬ (1≤x∧x≤254):=by omega
  exact⟨874+t,full-4503599627370496,t1,m1,C7.out,fun h=>absurd h x1,fun h=>absurd h x2,fun h=>absurd h x3,fun _=>⟨t,c2,c3,c4,rfl,m2⟩,key _ _ t1 m1 (fun h=>absurd h t2) C7.out⟩
theorem iF {n v s x f:Nat}(h:ru n v s x f):floatToFloatBits .f32 v .f64=some n:=by
 have hr:=de h;obtain⟨e,m,he,hm,hn,g1,g2,g3,g4,hd⟩:=iG h;obtain⟨a1,a2,a3,a4,_⟩:=h;have e1:Ieee.double.fractionBits=52:=rfl;have e2:Ieee.double.binade=4503599627370496:=rfl;have e3:Ieee.double.infRung=9218868437227405312:=rfl;have e4:Ieee.double.leastPlace = -1074:=rfl
 have hw:Ieee.double.write (Ieee.single.read v)=n:=by
  rw[hr]
  by_cases h1:x=255
  ·obtain⟨rfl,rfl⟩:=g1 h1;rw[if_pos h1];show Ieee.double.word _ Ieee.double.infRung=n
   rw[iJ _ _ a1,e3];omega
  rw[if_neg h1]
  have near:∀ (mag:Nat) (pl:Int) (t:Nat),t≤52→2 ^ t≤mag→mag<2 ^ (t+1)→-149≤pl→pl≤104→e=(pl+t+1023).toNat→mag*2 ^ (52-t)=4503599627370496+m→Ieee.double.nearest (s%2==1) mag pl=n:=by
   intro mag pl t ht b1 b2 p1 p2 he' Xb
   have hl:=ld b1 b2;have h0:mag≠0:=by have:=Nat.two_pow_pos t;omega
   unfold Ieee.Format.nearest
   rw[if_neg h0,hl,e1,e2,e3,e4];have pq:max (pl+(t:Int)-(52:Nat)) (-1074)=pl+t-52:=by omega
   simp only[pq]
   rw[show(pl-(pl+(t:Int)-52)).toNat=52-t by omega,show((pl+(t:Int)-52)-pl).toNat=0 by omega,Nat.shiftLeft_eq,Xb];have hc:=pJ (s%2==1) (4503599627370496+m) 0 (by omega);rw[Nat.pow_zero,Nat.mul_one]at hc;rw[hc,iJ _ _ a1,Nat.min_eq_left (by omega)]
   omega
  by_cases h2:x=0
  ·rw[if_pos h2]
   by_cases h3:f=0
   ·obtain⟨rfl,rfl⟩:=g2 ⟨h2,h3⟩;subst h3;show Ieee.double.nearest _ 0 _=n
    unfold Ieee.Format.nearest
    rw[if_pos rfl,iJ _ _ a1];omega
   ·obtain⟨t,t1,t2,t3,t4,t5⟩:=g4 ⟨h2,by omega⟩
    exact near f (-149) t (by omega) t2 t3 (by omega) (by omega) (by omega) (by omega)
  ·rw[if_neg h2];obtain⟨k1,k2⟩:=g3 ⟨by omega,by omega⟩
   refine near (8388608+f) ((x:Int)-150) 23 (by omega) (by simp) (by simp;omega) (by omega) (by omega) (by omega) ?_
   simp only[Nat.reduceSub,Nat.reducePow]
   omega
 unfold floatToFloatBits
 rw[if_neg (by decide)];show(match Ieee.single.read v with | .nan _ _=>none | .infinity s=>some (Ieee.double.write (.infinity s)) | .number s m e=>if(Ieee.double.read (Ieee.double.write (.number s m e))).isInfinity then none else some (Ieee.double.write (.number s m e)))=some n
 cases hq:Ieee.single.read v with
 | nan a b =>
  rw[hq]at hr
  split at hr
  ·cases hr
  ·split at hr <;> cases hr
 | infinity q=>simp only;rw[← hq,hw]
 | number a b c =>
  simp only
  rw[← hq,hw]
  have hx:x≠255:=by
   intro h1
   rw[hq,if_pos h1]at hr
   cases hr
  have Ld:e≠2047:=by
   by_cases h2:x=0
   ·by_cases h3:f=0
    ·have:=g2 ⟨h2,h3⟩;omega
    ·obtain⟨t,t1,t2,t3,t4,t5⟩:=g4 ⟨h2,by omega⟩;omega
   ·have:=g3 ⟨by omega,by omega⟩;omega
  rw[hd,if_neg Ld]
  by_cases h0:e=0
  ·rw[if_pos h0];rfl
  ·rw[if_neg h0];rfl
theorem bY {n v s x f:Nat}(h:ru n v s x f):floatToFloatBits .f64 n .f32=some v:=by
 have hr:=de h;obtain⟨e,m,he,hm,hn,g1,g2,g3,g4,hd⟩:=iG h;obtain⟨a1,a2,a3,a4,_⟩:=h;have e1:Ieee.single.fractionBits=23:=rfl;have e2:Ieee.single.binade=8388608:=rfl;have e3:Ieee.single.infRung=2139095040:=rfl;have e4:Ieee.single.leastPlace = -149:=rfl
 have hw:Ieee.single.write (Ieee.double.read n)=v:=by
  rw[hd]
  by_cases h1:x=255
  ·obtain⟨h5,h6⟩:=g1 h1;rw[if_pos h5];show Ieee.single.word _ Ieee.single.infRung=v
   rw[iK _ _ a1,e3]
   omega
  by_cases h2:x=0
  ·by_cases h3:f=0
   ·obtain⟨h5,h6⟩:=g2 ⟨h2,h3⟩;rw[if_neg (by omega),if_pos h5,h6];show Ieee.single.nearest _ 0 _=v
    unfold Ieee.Format.nearest
    rw[if_pos rfl,iK _ _ a1];omega
   ·obtain⟨t,t1,t2,t3,t4,t5⟩:=g4 ⟨h2,by omega⟩;rw[if_neg (by omega),if_neg (by omega)];show Ieee.single.nearest _ _ _=v
    have hl:(4503599627370496+m).log2=52:=ld (by simp) (by simp;omega)
    unfold Ieee.Format.nearest
    rw[if_neg (by omega),hl,e1,e2,e3,e4];have pq:max ((e:Int)-1075+(52:Nat)-(23:Nat)) (-149) = -149:=by omega
    simp only[pq]
    rw[show((e:Int)-1075 - -149).toNat=0 by omega,show(-149-((e:Int)-1075)).toNat=52-t by omega,Nat.shiftLeft_eq,Nat.pow_zero,Nat.mul_one,show 4503599627370496+m=f*2 ^ (52-t) by omega];rw[pJ _ _ _ (by rw[← t5,Nat.add_comm m,hl];omega),iK _ _ a1,Nat.min_eq_left (by omega)];rw[a2,h2,show((-149:Int) - -149).toNat=0 from rfl]
    simp only[Nat.zero_mul,Nat.zero_add,Nat.add_zero]
  ·obtain⟨k1,k2⟩:=g3 ⟨by omega,by omega⟩;rw[if_neg (by omega),if_neg (by omega)];show Ieee.single.nearest _ _ _=v
   have hl:(4503599627370496+m).log2=52:=ld (by simp) (by simp;omega)
   unfold Ieee.Format.nearest
   rw[if_neg (by omega),hl,e1,e2,e3,e4];have pq:max ((e:Int)-1075+(52:Nat)-(23:Nat)) (-149)=(e:Int)-1046:=by omega
   simp only[pq]
   have hq:4503599627370496+m=(8388608+f)*2 ^ 29:=by simp only[Nat.reducePow];omega
   rw[show((e:Int)-1075-((e:Int)-1046)).toNat=0 by omega,show(((e:Int)-1046)-((e:Int)-1075)).toNat=29 by omega,Nat.shiftLeft_eq,Nat.pow_zero,Nat.mul_one,hq];rw[pJ _ _ _ (by rw[← hq,hl];omega),iK _ _ a1,Nat.min_eq_left (by omega)]
   omega
 unfold floatToFloatBits
 rw[if_neg (by decide)];show(match Ieee.double.read n with | .nan _ _=>none | .infinity s=>some (Ieee.single.write (.infinity s)) | .number s m e=>if(Ieee.single.read (Ieee.single.write (.number s m e))).isInfinity then none else some (Ieee.single.write (.number s m e)))=some v
 cases hq:Ieee.double.read n with
 | nan a b =>
  rw[hq]at hd
  split at hd
  ·cases hd
  ·split at hd <;> cases hd
 | infinity q=>simp only;rw[← hq,hw]
 | number a b c =>
  simp only
  rw[← hq,hw]
  have hx:x≠255:=by
   intro h1
   have:=g1 h1;rw[hq,if_pos this.1]at hd
   cases hd
  rw[hr,if_neg hx]
  by_cases h0:x=0
  ·rw[if_pos h0];rfl
  ·rw[if_neg h0];rfl
theorem pd {n v s x f:Nat}(h:ru n v s x f):yg n 8 23=some v:=by
 obtain⟨e,m,he,hm,hn,g1,g2,g3,g4,hd⟩:=iG h;obtain⟨a1,a2,a3,a4,_⟩:=h;have k1:n/4503599627370496%2048=e:=by omega
 have k2:n%4503599627370496=m:=by omega
 have k3:n/9223372036854775808=s:=by omega
 rw[yg]
 simp only[Nat.reducePow,Nat.reduceSub,Nat.reduceAdd,Nat.reduceMul,k1,k2,k3]
 by_cases h1:x=255
 ·obtain⟨h5,h6⟩:=g1 h1;rw[if_pos h5,if_pos h6];congr 1;omega
 by_cases h2:x=0
 ·by_cases h3:f=0
  ·obtain⟨h5,h6⟩:=g2 ⟨h2,h3⟩;rw[if_neg (by omega),if_pos h5,if_pos h6];congr 1;omega
  ·obtain⟨t,t1,t2,t3,t4,t5⟩:=g4 ⟨h2,by omega⟩;rw[if_neg (by omega),if_neg (by omega),if_neg (by omega),if_neg (by omega),if_neg (by omega),show 30+(1023-e-127)=52-t by omega,t5,if_pos (Nat.mul_mod_left _ _),Nat.mul_div_cancel _ (Nat.two_pow_pos _)];congr 1;omega
 ·obtain⟨h5,h6⟩:=g3 ⟨by omega,by omega⟩;rw[if_neg (by omega),if_neg (by omega),if_neg (by omega),if_pos (by omega),if_pos (by omega)];congr 1;omega
def jC (v:Nat):Option Nat :=
 let s:=v/2147483648
 let e:=v/8388608%256
 let m:=v%8388608
 if e=255 then some (s*32768+31744) else if e=0 then(if m=0 then some (s*32768) else none)
 else if 113≤e∧e≤142 then(if m%8192=0 then some (s*32768+(e-112)*1024+m/8192) else none)
 else if 103≤e∧e<113 then(if(m+8388608)%2 ^ (126-e)=0 then some (s*32768+(m+8388608)/2 ^ (126-e)) else none) else none
theorem Vq {n v s x f:Nat}(h:ru n v s x f):jC v=yg n 5 10:=by
 obtain⟨e,m,he,hm,hn,g1,g2,g3,g4,hd⟩:=iG h;obtain⟨a1,a2,a3,a4,_⟩:=h;have k1:n/4503599627370496%2048=e:=by omega
 have k2:n%4503599627370496=m:=by omega
 have k3:n/9223372036854775808=s:=by omega
 have j1:v/2147483648=s:=by omega
 have j2:v/8388608%256=x:=by omega
 have j3:v%8388608=f:=by omega
 rw[yg,jC]
 simp only[Nat.reducePow,Nat.reduceSub,Nat.reduceAdd,Nat.reduceMul,k1,k2,k3,j1,j2,j3]
 by_cases h1:x=255
 ·obtain⟨h5,h6⟩:=g1 h1;rw[if_pos h5,if_pos h6,if_pos h1]
 by_cases h2:x=0
 ·by_cases h3:f=0
  ·obtain⟨h5,h6⟩:=g2 ⟨h2,h3⟩;rw[if_neg (by omega),if_pos h2,if_pos h3,if_neg (by omega),if_pos h5,if_pos h6]
  ·obtain⟨t,t1,t2,t3,t4,t5⟩:=g4 ⟨h2,by omega⟩;rw[if_neg (by omega),if_pos h2,if_neg h3,if_neg (by omega),if_neg (by omega),if_neg (by omega),if_neg (by omega),if_pos (by omega)]
 ·obtain⟨h5,h6⟩:=g3 ⟨by omega,by omega⟩;have n1:¬ e=2047:=by omega
  have n2:¬ e=0:=by omega
  rw[if_neg h1,if_neg h2,if_neg n1,if_neg n2]
  by_cases h7:143≤x
  ·have p1:¬ (113≤x∧x≤142):=by omega
   have p2:¬ (103≤x∧x<113):=by omega
   have p3:1023+31≤e+15:=by omega
   rw[if_neg p1,if_neg p2,if_pos p3]
  ·have p3:¬ (1023+31≤e+15):=by omega
   by_cases h8:113≤x
   ·have p1:113≤x∧x≤142:=by omega
    have p4:1023<e+15:=by omega
    rw[if_pos p1,if_neg p3,if_pos p4]
    by_cases h9:f%8192=0
    ·have p5:m%4398046511104=0:=by omega
     rw[if_pos h9,if_pos p5];obtain⟨q,rfl⟩:∃ q,f=8192*q:=⟨f/8192,by omega⟩
     have z1:m/4398046511104=8192*q/8192:=by omega
     have z2:e+15-1023=x-112:=by omega
     rw[z1,z2]
    ·have p5:¬ m%4398046511104=0:=by omega
     rw[if_neg h9,if_neg p5]
   ·have p1:¬ (113≤x∧x≤142):=by omega
    have p4:¬ 1023<e+15:=by omega
    rw[if_neg p1,if_neg p3,if_neg p4]
    by_cases h9:103≤x
    ·have p2:103≤x∧x<113:=by omega
     have p6:¬ 52<43+(1023-e-15):=by omega
     rw[if_pos p2,if_neg p6];have hs:43+(1023-e-15)=126-x+29:=by omega
     have hq:m+4503599627370496=(f+8388608)*2 ^ 29:=by simp only[Nat.reducePow];omega
     rw[hs,hq,Nat.pow_add,Nat.mul_mod_mul_right,Nat.mul_div_mul_right _ _ (Nat.two_pow_pos 29)]
     by_cases h10:(f+8388608)%2 ^ (126-x)=0
     ·have PP:(f+8388608)%2 ^ (126-x)*2 ^ 29=0:=by rw[h10,Nat.zero_mul]
      rw[if_pos h10,if_pos PP]
     ·have PP:¬ (f+8388608)%2 ^ (126-x)*2 ^ 29=0:=by
       intro h
       have:=Nat.two_pow_pos 29
       rcases Nat.mul_eq_zero.1 h with h | h <;> omega
      rw[if_neg h10,if_neg PP]
    ·have p2:¬ (103≤x∧x<113):=by omega
     have p6:52<43+(1023-e-15):=by omega
     rw[if_neg p2,if_pos p6]
def bh (n k:Nat):UInt8:=u8 (n/2 ^ (56-8*k))
theorem cN (n k:Nat):(#[.int .u8 ((n:Int)/2 ^ (56-8*k)%256)]:Array Value).toList=[bh n k].map zD:=by
 simp only[List.map_cons,List.map_nil,bh,xA]
 simp
theorem Zy (n:Nat) (hn:n<18446744073709551616) (w:World) :
  Calls Tryz.prog 90 #[.int .u64 (n:Int)] w fun e w'=>∃ r,e=.returned r∧Fresh w (be8 n 8) r w':=by
 have HN:=Hh hn;clear hn;have hO:=OwnB.nil w w.heap.size;have hb:=Below.refl w.heap.size w;go_enter Tryz.func90,Tryz.ntmps90
 go_wp2_with fail
 go_loopw [3,4] (fun v3 v4 wr=>∃ (k:Nat) (VA:Option Addr) (vc:Nat),k≤8∧v4=.int .i64 (56-8*(k:Int))∧v3=.slice VA k vc∧OwnB wr w.heap.size (.slice VA k vc) (be8 n k)∧Below w.heap.size w wr) (fun _ v4 _=>(intOf v4+8).toNat)
 case atStart=>exact⟨0,none,0,by omega,rfl,rfl,hO,hb⟩
 case round =>
  obtain⟨k,VA,vc,hk,rfl,rfl,ww,xS⟩:=hrel
  by_cases yi:k<8
  ·have xq:=cN n k;have tl:=xS.alloc xS.size (.cells #[.int .u8 ((n:Int)/2 ^ (56-8*k)%256)] 5);have lL:=ww.alloc (.cells #[.int .u8 ((n:Int)/2 ^ (56-8*k)%256)] 5);have HC:=Hh xq;clear xq;go_wp2_with (at_builtin;refine ye ?_)
   refine zO rfl (.tmp 9) (.tmp 14) rfl w.heap.size _ _ rfl lL _ 1 _ [bh n k] rfl rfl (Src.new _ _ _ _ rfl _ HC.out) (by simp[vR];omega) tl.size fun v' w7 xK hg7 hat7=>?_
   obtain⟨VA',vc',rfl,_⟩:=xK.form;have lp:(be8 n k++[bh n k]).length=k+1:=by simp[vR]
   have dj:OwnB w7 w.heap.size (.slice VA' (k+1) vc') (be8 n (k+1)):=by
    rw[lp]at xK
    exact xK
   rw[lp];have wj:=tl.grown hg7 tl.size (fun q hq=>(lL.lt q hq).1);clear lp hg7 hat7 lL ww tl xS xK;go_wp2_with fail
   go_roundw
   case rel=>exact⟨k+1,VA',vc',by omega,by go_num,rfl,dj,wj⟩
   case measure=>simp[intOf];omega
  ·have T1:k=8:=by omega
   subst T1;go_wp2_with fail
   go_ret
   exact⟨_,rfl,ww,xS⟩
theorem pI (a k:Nat) (ha:a<4294967296) (hk:k<32):bits .and .u32 (a:Int) ((2 ^ k-1:Nat):Int)=((a%2 ^ k:Nat):Int):=by
 have:2 ^ k<2 ^ 32:=Nat.pow_lt_pow_right (by omega) hk
 simp only[Nat.reducePow]at this
 rw[u32_and_nat a (2 ^ k-1) ha (by omega),Nat.and_two_pow_sub_one_eq_mod]
theorem Xz (b k:Nat) (hb:b<2 ^ k) (hk:k<31):bits .or .u32 (b:Int) ((2 ^ k:Nat):Int)=((b+2 ^ k:Nat):Int):=by
 have h1:2 ^ k<2 ^ 31:=Nat.pow_lt_pow_right (by omega) hk
 simp only[Nat.reducePow]at h1
 rw[u32_or_nat _ _ (by omega) (by omega),Nat.or_comm];have:=Nat.two_pow_add_eq_or_of_lt hb 1;rw[Nat.mul_one]at this;rw[← this,Nat.add_comm]
theorem nc (a k b:Nat) (hb:b<2 ^ k) (h:a*2 ^ k+b<65536):bits .or .u16 ((a*2 ^ k:Nat):Int) (b:Int)=((a*2 ^ k+b:Nat):Int):=by
 rw[u16_or_nat _ _ (by omega) (by omega),Nat.mul_comm,Nat.two_pow_add_eq_or_of_lt hb]
theorem WP (q:Nat) (h:q<65536):IntKind.u16.wrap (q:Int)=(q:Int):=IntWalk.u16_in _ (by omega)
theorem Zw (v:Nat) (hv:v<4294967296) (w:World) :
  Calls Tryz.prog 92 #[.int .u32 (v:Int)] w
   fun e w'=>(∃ h:Nat,e=.returned (.tuple #[.int .u16 (h:Int),.bool (jC v).isSome])∧∀ x,jC v=some x→h=x)∧w=w':=by
 have A1:=pI (v/2 ^ 23) 8 (by omega) (by omega);have A2:=pI v 23 hv (by omega)
 simp only[Nat.reducePow,Nat.reduceSub]at A1 A2
 rw[Int.natCast_ediv]at A1;obtain⟨ex,uU⟩:∃ ex,v/8388608%256=ex:=⟨_,rfl⟩
 obtain⟨mx,je⟩:∃ mx,v%8388608=mx:=⟨_,rfl⟩
 obtain⟨sg,cI⟩:∃ sg,v/2147483648=sg:=⟨_,rfl⟩
 have xE:sg≤1:=by omega
 have E:Hid (jC v=if ex=255 then some (sg*32768+31744) else if ex=0 then(if mx=0 then some (sg*32768) else none)
   else if 113≤ex∧ex≤142 then(if mx%8192=0 then some (sg*32768+(ex-112)*1024+mx/8192) else none)
   else if 103≤ex∧ex<113 then(if(mx+8388608)%2 ^ (126-ex)=0 then some (sg*32768+(mx+8388608)/2 ^ (126-ex)) else none) else none):=by
  rw[Hid,jC]
  simp only[uU,je,cI]
 rw[uU]at A1;rw[je]at A2;have Sx:ex<256:=by omega
 have rn:mx<8388608:=by omega
 have A1':bits .and .u32 ((v:Int)/8388608) 255=(ex:Int):=A1;have A2':bits .and .u32 (v:Int) 8388607=(mx:Int):=A2;have K1:IntKind.i64.wrap (ex:Int)=(ex:Int):=IntWalk.i64_in _ (by omega)
 have KS:Hid (IntKind.u16.wrap ((v:Int)/2147483648*32768%4294967296)=((sg*2 ^ 15:Nat):Int)):=by
  have h:(v:Int)/2147483648*32768%4294967296=(sg:Int)*32768:=by omega
  simp only[Nat.reducePow]
  rw[Hid,h,IntWalk.u16_in _ (by omega)]
  omega
 clear hv uU je cI A1 A2;go_enter Tryz.func92,Tryz.ntmps92
 go_wp2_with fail
 ·have h1:ex=255:=by
   have h:((ex:Int)==255)=true:=by assumption
   rw[beq_iff_eq]at h
   omega
  go_ret2
  have TA:=nc sg 15 31744 (by omega) (by omega)
  refine⟨⟨sg*32768+31744, ?_, ?_⟩,rfl⟩
  ·show Ending.returned (Value.tuple #[Value.int .u16 _,Value.bool _])=_
   rw[KS.out,E.out,if_pos h1];rw[show(31744:Int)=((31744:Nat):Int) from rfl,TA];rfl
  ·intro x hx
   rw[E.out,if_pos h1]at hx;injection hx
 all_goals
  have h1:¬ ex=255:=by
   have h:((ex:Int)==255)=false:=by assumption
   rw[beq_eq_false_iff_ne]at h
   omega
  rw[if_neg h1]at E
 ·have h2:ex=0:=by
   have h:((ex:Int)==0)=true:=by assumption
   rw[beq_iff_eq]at h
   omega
  rw[if_pos h2]at E;go_ret2
  refine⟨⟨sg*32768, ?_, ?_⟩,rfl⟩
  ·show Ending.returned (Value.tuple #[Value.int .u16 _,Value.bool _])=_
   rw[KS.out,E.out]
   by_cases h:mx=0 <;> simp[h]
  ·intro x hx
   rw[E.out]at hx
   split at hx
   ·injection hx
   ·cases hx
 all_goals
  have h2:¬ ex=0:=by
   have h:((ex:Int)==0)=false:=by assumption
   rw[beq_eq_false_iff_ne]at h
   omega
  rw[if_neg h2]at E
 ·have h3:113≤ex∧ex≤142:=by omega
  rw[if_pos h3]at E;obtain⟨q,hq⟩:∃ q,ex-112=q:=⟨_,rfl⟩
  have TC:((ex:Int)-112)*1024=((q*1024:Nat):Int):=by omega
  have eX:(mx:Int)/8192=((mx/8192:Nat):Int):=by omega
  have ha:=pI mx 13 (by omega) (by omega)
  simp only[Nat.reducePow,Nat.reduceSub]at ha
  have Zp:=nc sg 15 (q*1024) (by omega) (by omega);have eM:=nc (sg*2 ^ 5+q) 10 (mx/8192) (by omega) (by omega);rw[show(sg*2 ^ 5+q)*2 ^ 10=sg*2 ^ 15+q*1024 by omega]at eM;go_ret2
  refine⟨⟨sg*32768+q*1024+mx/8192, ?_, ?_⟩,rfl⟩
  ·show Ending.returned (Value.tuple #[Value.int .u16 _,Value.bool _])=_
   rw[KS.out,E.out,TC,eX,Zp,eM];have Sv:bits .and .u32 (mx:Int) 8191=((mx%8192:Nat):Int):=ha;rw[Sv]
   by_cases h:mx%8192=0
   ·rw[if_pos h,h];rfl
   ·rw[if_neg h];have:(((mx%8192:Nat):Int)==0)=false:=by rw[beq_eq_false_iff_ne];omega
    rw[this];rfl
  ·intro x hx
   rw[E.out,hq]at hx
   split at hx
   ·injection hx
   ·cases hx
 ·have h3:¬ (113≤ex∧ex≤142):=by omega
  have h4:¬ (103≤ex∧ex<113):=by omega
  rw[if_neg h3,if_neg h4]at E;go_ret2
  refine⟨⟨0, ?_, ?_⟩,rfl⟩
  ·rw[E.out];rfl
  ·intro x hx
   rw[E.out]at hx
   cases hx
 ·have h3:¬ (113≤ex∧ex≤142):=by omega
  have h4:103≤ex∧ex<113:=by omega
  rw[if_neg h3,if_pos h4]at E;obtain⟨sh,cJ⟩:∃ sh,126-ex=sh:=⟨_,rfl⟩
  obtain⟨full,uJ⟩:∃ full,mx+8388608=full:=⟨_,rfl⟩
  have T9:bits .or .u32 (mx:Int) 8388608=(full:Int):=by
   have:=Xz mx 23 (by omega) (by omega)
   simp only[Nat.reducePow]at this
   rw[← uJ]
   exact this
  have hp:2 ^ sh<2 ^ 32:=Nat.pow_lt_pow_right (by omega) (by omega);have jk:0<2 ^ sh:=Nat.two_pow_pos sh
  simp only[Nat.reducePow]at hp
  have M5:(2:Int) ^ sh=((2 ^ sh:Nat):Int):=by rw[Int.natCast_pow];rfl
  have hw:((2:Int) ^ sh-1)%4294967296=((2 ^ sh-1:Nat):Int):=by rw[M5];omega
  have Sw:(full:Int)/2 ^ sh=((full/2 ^ sh:Nat):Int):=by
   rw[Int.natCast_ediv,Int.natCast_pow];rfl
  have yi:full/2 ^ sh<2 ^ 15:=by
   apply Nat.div_lt_of_lt_mul
   have h1:2 ^ 14≤2 ^ sh:=Nat.pow_le_pow_right (by omega) (by omega);have h2:2 ^ 14*2 ^ 15≤2 ^ sh*2 ^ 15:=Nat.mul_le_mul_right _ h1
   simp only[Nat.reducePow,Nat.reduceMul]at h2⊢
   omega
  have Kd:full/2 ^ sh<32768:=yi;have M6:IntKind.u16.wrap ((full/2 ^ sh:Nat):Int)=((full/2 ^ sh:Nat):Int):=WP _ (by omega);have ho:=nc sg 15 (full/2 ^ sh) yi (by simp only[Nat.reducePow];omega);have ha:=pI full sh (by omega) (by omega);go_ret2
  refine⟨⟨sg*32768+full/2 ^ sh, ?_, ?_⟩,rfl⟩
  ·show Ending.returned (Value.tuple #[Value.int .u16 _,Value.bool _])=_
   rw[KS.out,E.out,cJ,T9,hw,ha,Sw,M6,ho,uJ]
   by_cases h:full%2 ^ sh=0
   ·rw[if_pos h,h];rfl
   ·rw[if_neg h];have:(((full%2 ^ sh:Nat):Int)==0)=false:=by rw[beq_eq_false_iff_ne];omega
    rw[this];rfl
  ·intro x hx
   rw[E.out,cJ,uJ]at hx
   split at hx
   ·injection hx
   ·cases hx
 ·have h3:¬ (113≤ex∧ex≤142):=by omega
  have h4:¬ (103≤ex∧ex<113):=by omega
  rw[if_neg h3,if_neg h4]at E;go_ret2
  refine⟨⟨0, ?_, ?_⟩,rfl⟩
  ·rw[E.out];rfl
  ·intro x hx
   rw[E.out]at hx
   cases hx
theorem Xk (n:Nat) (hN:isNaN n=false) (w:World):∃ r w',(convert 118 133 (.float .f64 n)).run Tryz.prog w=.ok (.float .f32 r) w'∧(w'=w∨w'=w.drew)∧r<4294967296∧(∀ s x f v,ru n v s x f→r=v):=by
 have hs:Tryz.prog.underlying 118=some (.float .f64):=Tryz.underlying118;have hd:Tryz.prog.underlying 133=some (.float .f32):=Tryz.underlying133
 cases hb:floatToFloatBits .f64 n .f32 with
 | some r =>
  have TE:(Tryz.prog.underlying 118).isSome=true:=by rw[hs];rfl
  refine⟨r,w,run_convert_float_float (P:=Tryz.prog) (w:=w) 118 133 .f64 .f32 n r TE hd hb,.inl rfl, ?_, ?_⟩
  ·unfold floatToFloatBits at hb
   rw[if_neg (by decide)]at hb;have yi:∀ d:Ieee.Datum,FloatKind.encode .f32 d<4294967296:=fun d=>Ieee.single.write_lt d
   split at hb
   ·cases hb
   ·injection hb with hb;rw[← hb];exact yi _
   ·split at hb
    ·cases hb
    ·injection hb with hb;rw[← hb];exact yi _
  ·intro s x f v h
   have:=bY h;rw[hb]at this;injection this
 | none =>
  have Uv:=hb
  unfold floatToFloatBits at hb
  rw[if_neg (by decide)]at hb
  have vE:¬ (∃ a b,FloatKind.decode .f64 n=.nan a b):=by
   rintro⟨a,b,h⟩
   have:=fu n;rw[hN]at this;have h':Ieee.double.read n=.nan a b:=h;rw[h']at this
   cases this
  cases hq:FloatKind.decode .f64 n with
  | nan a b=>exact absurd ⟨a,b,hq⟩ vE
  | infinity a=>rw[hq]at hb;cases hb
  | number a b c =>
   rw[hq]at hb
   simp only at hb
   split at hb
   ·rename_i ho
    refine⟨(Question.floatToFloat n).cut (w.tape w.drawn (Question.floatToFloat n)),w.drew, ?_,.inr rfl, ?_, ?_⟩
    ·simp[convert,run_underlying hs,run_underlying hd,Conv.floatToFloat,hq,ho,Question.forced]
    ·show _%2 ^ 32<4294967296
     omega
    ·intro s x f v h
     have:=bY h;rw[Uv]at this
     cases this
   ·cases hb
theorem Xl (r n:Nat) (hN:isNaN n=false) (hr:r<4294967296) (w:World):∃ m w',(convert 133 118 (.float .f32 r)).run Tryz.prog w=.ok (.float .f64 m) w'∧(w'=w∨w'=w.drew)∧(m=n→yg n 8 23=some r)∧(∀ s x f,ru n r s x f→m=n):=by
 have hs:Tryz.prog.underlying 133=some (.float .f32):=Tryz.underlying133;have hd:Tryz.prog.underlying 118=some (.float .f64):=Tryz.underlying118
 cases hn:(Ieee.single.read r).isNaN with
 | false =>
  obtain⟨m,s,x,f,_,hx⟩:=jN hr hn;have hw:=iF hx;have TE:(Tryz.prog.underlying 133).isSome=true:=by rw[hs];rfl
  refine⟨m,w,run_convert_float_float (P:=Tryz.prog) (w:=w) 133 118 .f32 .f64 r m TE hd hw,.inl rfl, ?_, ?_⟩
  ·rintro rfl
   exact pd hx
  ·intro s' x' f' h
   have:=iF h;rw[hw]at this;injection this
 | true =>
  cases hq:FloatKind.decode .f32 r with
  | number a b c =>
   have h':Ieee.single.read r=.number a b c:=hq;rw[h']at hn;cases hn
  | infinity a =>
   have h':Ieee.single.read r=.infinity a:=hq;rw[h']at hn;cases hn
  | nan a b =>
   refine⟨(Question.nanConv .f64 r).cut (w.tape w.drawn (Question.nanConv .f64 r)),w.drew, ?_,.inr rfl, ?_, ?_⟩
   ·simp[convert,run_underlying hs,run_underlying hd,Conv.floatToFloat,hq,Question.forced]
   ·intro h
    exfalso
    have uf:isNaN ((Question.nanConv .f64 r).cut (w.tape w.drawn (Question.nanConv .f64 r)))=true:=by
     rw[mi];show(_%2*2 ^ 63+0x7ff0000000000000+1+_/2%(2 ^ 52-1))/2 ^ 52%2048=2047∧_
     generalize w.tape w.drawn (Question.nanConv .f64 r)=t
     show(t%2*2 ^ 63+0x7ff0000000000000+1+t/2%(2 ^ 52-1))/2 ^ 52%2048=2047∧(t%2*2 ^ 63+0x7ff0000000000000+1+t/2%(2 ^ 52-1))%2 ^ 52≠0
     generalize t/2=u
     have:t%2=0∨t%2=1:=by omega
     rcases this with h | h <;> rw[h] <;> simp only[Nat.reducePow,Nat.reduceSub,Nat.reduceMul,Nat.reduceAdd,Nat.zero_add] <;> omega
    rw[h,hN]at uf
    cases uf
   ·intro s x f h
    have:=de h;have h':Ieee.single.read r=.nan a b:=hq;rw[h']at this
    split at this
    ·cases this
    ·split at this <;> cases this
theorem Fresh.step_ {w w1 w2:World}{l:List UInt8}{r:Value}(hb:Below w.heap.size w w1) (h:Fresh w1 l r w2):Fresh w l r w2:=⟨h.own.more hb.size,hb.trans (h.2.mono hb.size)⟩
theorem jJ {n:Nat}(hn:n<18446744073709551616) (h:yg n 8 23=none):yg n 5 10=none:=by
 cases h5:yg n 5 10 with
 | none=>rfl
 | some v =>
  obtain⟨s,x,f,a1,a2,a3,a4,a5⟩:=uF hn h5
  have done:∀ {x' f':Nat},ru n (s*2147483648+x'*8388608+f') s x' f'→False:=fun hx=>by
   rw[pd hx]at h
   cases h
  rcases a5 with ⟨c1,c2,c3⟩ | ⟨c1,c2,c3⟩ | ⟨c1,c2,c3⟩ | ⟨c1,t,full,c2,c3,c4,c5,c6,c7⟩
  ·exact(done (x':=255) (f':=0) ⟨a1,rfl,by omega,by omega,.inl ⟨rfl,rfl,c3⟩⟩).elim
  ·exact(done (x':=0) (f':=0) ⟨a1,rfl,by omega,by omega,.inr (.inl ⟨rfl,rfl,c3⟩)⟩).elim
  ·have C3:n=s*9223372036854775808+(x+112+896)*4503599627370496+f*8192*536870912:=by
    rw[c3,Nat.mul_assoc f 8192,Nat.add_assoc x 112]
   have C:=Hh C3;clear c3 C3;have g1:f*8192<8388608:=by omega
   have g2:x+112≤255:=by omega
   have g3:1≤x+112:=by omega
   have g4:x+112≤254:=by omega
   exact(done (x':=x+112) (f':=f*8192) ⟨a1,rfl,g1,g2,.inr (.inr (.inl ⟨g3,g4,C.out⟩))⟩).elim
  ·have C:=Hh c7;clear c7
   have e1:full=f*2 ^ (23-t)*536870912:=by
    rw[c5,Nat.mul_assoc,show(536870912:Nat)=2 ^ 29 from rfl,← Nat.pow_add,show 23-t+29=52-t by omega]
   have e2:2 ^ (t+1)*2 ^ (52-t)=9007199254740992:=by
    rw[← Nat.pow_add,show t+1+(52-t)=53 by omega]
   have b2:=Nat.mul_lt_mul_of_pos_right c4 (Nat.two_pow_pos (52-t));rw[e2,← c5]at b2;obtain⟨q,hq⟩:∃ q,f*2 ^ (23-t)=q:=⟨_,rfl⟩
   rw[hq]at e1;have g0:8388608≤q∧q<16777216:=by clear a2;omega
   have g5:full-4503599627370496=(q-8388608)*536870912:=by clear a2;omega
   have g1:q-8388608<8388608:=by omega
   have g2:103+t≤255:=by omega
   have g3:1≤103+t:=by omega
   have g4:103+t≤254:=by omega
   have C3:n=s*9223372036854775808+(103+t+896)*4503599627370496+(q-8388608)*536870912:=by
    rw[C.out,g5,show 103+t+896=999+t by omega]
   exact(done (x':=103+t) (f':=q-8388608) ⟨a1,rfl,g1,g2,.inr (.inr (.inl ⟨g3,g4,C3⟩))⟩).elim
theorem te (n:Nat) (hn:n<18446744073709551616) (w:World) :
  Calls Tryz.prog 75 #[.int .u64 (n:Int)] w fun e w'=>∃ r,e=.returned r∧Fresh w (zF n) r w':=by
 have r1:=vZ n;have r2:=aT n
 cases hN:isNaN n with
 | true =>
  rw[hN]at r2;have E:Hid (zF n=[u8 249,u8 126,u8 0]):=by rw[Hid,zF,if_pos hN]
  clear hN hn;go_enter Tryz.func75,Tryz.ntmps75
  go_wp2_with fail
  go_ret
  refine⟨_,rfl, ?_⟩
  rw[E.out]
  exact Fresh.lit w _ _ 3 rfl (by simp) rfl
 | false =>
  rw[hN]at r2;obtain⟨r,w1,p8,o3,hr,hv⟩:=Xk n hN w;obtain⟨m,w2,ZZ,oe,rn,Ze⟩:=Xl r n hN hr w1
  have hb:Below w.heap.size w w2:=by
   rcases o3 with rfl | rfl <;> rcases oe with rfl | rfl
   ·exact Below.refl _ _
   ·exact(Below.refl _ _).drew
   ·exact(Below.refl _ _).drew
   ·exact(Below.refl _ _).drew.drew
  have r3:=yB m;have r4:=fG r;have rh:=Hh hN
  cases h2:yg n 8 23 with
  | none =>
   have wd:m≠n:=fun h=>by rw[rn h]at h2;cases h2
   have b1:((m:Int) != (n:Int))=true:=by rw[bne_iff_ne];omega
   have p1:(m=n)=False:=eq_false wd;have E:Hid (zF n=u8 251::be8 n 8):=by rw[Hid,zF,if_neg (by simp[hN]),jJ hn h2,h2]
   have WD:=Hh (fun w3:World=>Zy n hn w3);have hO:=OwnB.lit w2 w.heap.size [u8 251] #[.int .u8 251] 1 rfl rfl hb.size (by simp);have yR:=hb.alloc hb.size (.cells #[.int .u8 251] 5);clear rn Ze hv hN hn h2 wd o3 oe hr;go_enter Tryz.func75,Tryz.ntmps75
   go_wp2_with fail
   refine(WD.out _).mono ?_
   rintro e w3 ⟨rr,rfl,hf⟩
   obtain⟨RA,rc,rfl,_⟩:=hf.own.form;have lL:=hO.below hf.2;have tl:=yR.trans (hf.2.mono yR.size);go_wp2_with (at_builtin;refine ye ?_)
   refine zO rfl (.tmp 21) (.tmp 23) rfl w.heap.size _ _ rfl lL RA _ rc (be8 n 8) rfl rfl hf.own.src (by simp[vR]) tl.size fun v' w7 xK hg7 hat7=>?_
   have wj:=tl.grown hg7 tl.size (fun q hq=>(lL.lt q hq).1);clear hg7 hat7 lL hf;go_wp2_with fail
   go_ret
   exact⟨_,rfl,by rw[E.out];exact⟨xK,wj⟩⟩
  | some v =>
   obtain⟨s,x,f,hx⟩:=tK hn h2;obtain rfl:=hv s x f v hx;obtain rfl:=Ze s x f hx;have b1:((m:Int) != (m:Int))=false:=by simp
   have HF:=Vq hx;have HH:=Hh (fun w3:World=>Zw r hr w3)
   cases h5:yg m 5 10 with
   | some q =>
    rw[h5]at HF;rw[HF]at HH;have E:Hid (zF m=[u8 249,u8 (q/256),u8 q]):=by rw[Hid,zF,if_neg (by simp[hN]),h5]
    clear rn Ze hv hN hn h2 o3 oe hr hx HF h5;go_enter Tryz.func75,Tryz.ntmps75
    go_wp2_with fail
    refine(HH.out _).mono ?_
    rintro e w' ⟨⟨hq,rfl,he⟩,rfl⟩
    obtain rfl:=he q rfl;clear he;go_wp2_with fail
    go_ret
    refine⟨_,rfl, ?_⟩
    rw[E.out]
    refine(Fresh.lit w2 _ _ 3 rfl (by simp) ?_).step_ hb
    simp only[List.map_cons,List.map_nil,xA]
    simp
   | none =>
    rw[h5]at HF;rw[HF]at HH;have E:Hid (zF m=[u8 250,u8 (r/16777216),u8 (r/65536),u8 (r/256),u8 r]):=by rw[Hid,zF,if_neg (by simp[hN]),h5,h2]
    clear rn Ze hv hN hn h2 o3 oe hr hx HF h5;go_enter Tryz.func75,Tryz.ntmps75
    go_wp2_with fail
    refine(HH.out _).mono ?_
    rintro e w' ⟨⟨hq,rfl,_⟩,rfl⟩
    go_wp2_with fail
    go_ret
    refine⟨_,rfl, ?_⟩
    rw[E.out]
    refine(Fresh.lit w2 _ _ 5 rfl (by simp) ?_).step_ hb
    simp only[List.map_cons,List.map_nil,xA]
    simp
end Go.Proofs.YtnlinmoiakgedaaGreatDoor
