/- squeezed. Walks: the references' Head. Walks -/
import Derived.Test.YtliomcphdnppnaaGreatDoorK01
import Derived.Deep.CutBlock
import Derived.Laws.BitsAllLaws
set_option linter.unusedVariables false
set_option linter.unusedSimpArgs false
set_option maxRecDepth 100000
set_option maxHeartbeats 3200000
namespace Go.Proofs.YtliomcphdnppnaaGreatDoor
open Go.RowKit
theorem jbw{P:Prop}(h:P:=by
 show Ending.returned (Value.tuple #[Value.int .u64 _,Value.bool _])=_
 rw[KS.out,E.out,if_neg h3,if_neg h4,if_neg h5,Au,E9,hw,ha,Dr,ho,Wo,tO]
 exact jeD):P:=h
theorem jbx{P:Prop}(h:P:=by
 split at hx
 ·injection hx
 cases hx):P:=h
theorem jbJ{P:Prop}(h:P:=by
 have h:((ex:Int)==2047)=false:=by assumption
 rw[beq_eq_false_iff_ne]at h
 omega):P:=h
theorem jbY{P:Prop}(h:P:=by
 rw[beq_eq_false_iff_ne]at h
 omega):P:=h
theorem jca{P:Prop}(h:P:=by
 simp only[List.map_cons,List.map_nil,wU]
 simp):P:=h
theorem jch{P:Prop}(h:P:=by
 go_ret2
 refine⟨⟨0, ?_, ?_⟩,rfl⟩
 ·rw[E.out,if_neg h3,if_neg h4,if_pos h5];rfl
 intro x hx
 rw[E.out,if_neg h3,if_neg h4,if_pos h5]at hx
 cases hx):P:=h
theorem jcp{P:Prop}(h:P:=by
 show Ending.returned (Value.tuple #[Value.int .u64 _,Value.bool _])=_
 rw[KS.out,E.out,if_neg h1,if_pos h2]
 exact jeT):P:=h
theorem jcx{P:Prop}(h:P:=by
 have h:((ex:Int)==0)=true:=by assumption
 rw[beq_iff_eq]at h
 omega):P:=h
theorem jcL{P:Prop}(h:P:=by
 go_ret2
 refine⟨⟨0, ?_, ?_⟩,rfl⟩
 ·rw[E.out,if_pos h3];rfl
 intro x hx
 rw[E.out,if_pos h3]at hx
 cases hx):P:=h
theorem jcY{P:Prop}(h:P:=by
 simp only[Nat.reducePow]at this
 rw[← tO]
 exact this):P:=h
theorem jc3{P:Prop}(h:P:=by
 simp only[Nat.reducePow,Nat.reduceMul]at h2⊢
 omega):P:=h
theorem jc7{P:Prop}(h:P:=by
 go_wp2_with fail
 go_ret
 refine⟨_,rfl, ?_⟩
 rw[E.out]
 exact Fresh.lit w _ _ 3 rfl (by simp) rfl):P:=h
theorem jdc{P:Prop}(h:P:=by have:=Nat.two_pow_add_eq_or_of_lt hb 1;rw[Nat.mul_one]at this;rw[← this,Nat.add_comm]):P:=h
theorem jdg{P:Prop}(h:P:=by
 rw[Hid,yW]
 simp only[Nat.reducePow,Nat.reduceSub,Nat.reduceAdd,Nat.reduceMul,uy,gJ,UG]):P:=h
theorem jdx{P:Prop}(h:P:=by rw[Int.natCast_ediv,Int.natCast_pow];rfl):P:=h
theorem jdC{P:Prop}(h:P:=by
 have h:((ex:Int)==2047)=true:=by assumption
 rw[beq_iff_eq]at h
 omega):P:=h
theorem jdR{P:Prop}(h:P:=by exact⟨og,rfl,rfl,this,zo _ _⟩):P:=h
theorem jeD{P:Prop}(h:P:=by
 by_cases h:full%2 ^ sh=0
 ·rw[if_pos h,h];rfl
 rw[if_neg h];have:(((full%2 ^ sh:Nat):Int)==0)=false:=by rw[beq_eq_false_iff_ne];omega
 rw[this];rfl):P:=h
theorem jeK{P:Prop}(h:P:=by
 have h:((ex:Int)==0)=false:=by assumption
 exact jbY):P:=h
theorem jeS{P:Prop}(h:P:=by
 intro x hx
 rw[E.out,if_neg h3,if_neg h4,if_neg h5,Wo,tO]at hx
 exact jbx):P:=h
theorem jeT{P:Prop}(h:P:=by by_cases h:mx=0 <;> simp[h]):P:=h
theorem jeW{P:Prop}(h:P:=by
 intro x hx
 rw[E.out,if_neg h3,if_pos h4,hq]at hx
 exact jbx):P:=h
theorem jf1{P:Prop}(h:P:=by have um:=xj.grown ww xj.size (fun q hq=>(l8.lt q hq).1);exact um):P:=h
theorem jf3{P:Prop}(h:P:=by have A1':bits .and .u64 ((n:Int)/4503599627370496) 2047=(ex:Int):=A1;have A2':bits .and .u64 (n:Int) 4503599627370495=(mx:Int):=A2;have K1:IntKind.i64.wrap (ex:Int)=(ex:Int):=IntWalk.i64_in _ (by omega);exact And.intro A1' (And.intro A2' K1)):P:=h
theorem jgj{P:Prop}(h:P:=by have A1:=tC (n/2 ^ 52) 11 (by omega) (by omega);have A2:=tC n 52 (by omega) (by omega);exact And.intro A1 A2):P:=h
theorem jgA{P:Prop}(h:P:=by have hw:IntKind.u64.wrap (IntKind.u64.wrap ((2:Int) ^ sh)-1)=((2 ^ sh-1:Nat):Int):=YY sh (by omega);exact hw):P:=h
theorem OwnB.blk {w:World}{g base:Nat}{cs:Array Value}{l:List UInt8}(h:Blk w g 5 cs) (hc:cs.toList=l.map zm) (hb:base≤g) (hm:l.length≤4096) (k:Nat) (hk:k=l.length) :
  OwnB w base (.slice (some ⟨g,0,none⟩) k k) l:=by
 subst hk
 refine⟨by simp,.inr ⟨g,l.length,cs,rfl,hb,h,Nat.le_refl _,by simp only[maxLen];omega, ?_, ?_⟩⟩
 ·rw[← Array.length_toList,hc];simp
 exact jdV
def tQ (n s j:Nat):List UInt8:=(List.range j).map fun t=>u8 (n/2 ^ (8*(s-1-t)))
theorem eG (n s j:Nat):tQ n s (j+1)=tQ n s j++[u8 (n/2 ^ (8*(s-1-j)))]:=by
 simp[tQ,List.range_succ]
theorem lV (n s j:Nat):(tQ n s j).length=j:=by simp[tQ]
def kz (n s j:Nat):UInt8:=u8 (n/2 ^ (8*(s-1-j)))
def qk (n:Nat):Nat:=if n<256 then 1 else if n<65536 then 2 else if n<4294967296 then 4 else 8
def oU (n:Nat):Nat:=if n<256 then 24 else if n<65536 then 25 else if n<4294967296 then 26 else 27
def jl (m n:Nat):UInt8:=u8 (m*32+oU n)
theorem Ur (m n:Nat) (h:24≤n):yv m n=jl m n::tQ n (qk n) (qk n):=by
 rw[yv,if_neg (by omega),jl,oU,qk]
 by_cases h1:n<256
 ·simp[h1,tQ,List.range_succ]
 by_cases h2:n<65536
 ·simp[h1,h2,tQ,List.range_succ]
 by_cases h3:n<4294967296
 ·simp[h1,h2,h3,tQ,List.range_succ]
 simp[h1,h2,h3,tQ,be8,List.range_succ]
theorem G0 {n:Int}(h:n<256):qk n.toNat=1∧oU n.toNat=24:=by
 constructor <;> (simp only[qk,oU];repeat (first | rw[if_pos (by omega)] | rw[if_neg (by omega)]))
theorem G1 {n:Int}(h:256≤n) (h':n<65536):qk n.toNat=2∧oU n.toNat=25:=by
 constructor <;> (simp only[qk,oU];repeat (first | rw[if_pos (by omega)] | rw[if_neg (by omega)]))
theorem G2 {n:Int}(h:65536≤n) (h':n<4294967296):qk n.toNat=4∧oU n.toNat=26:=by
 constructor <;> (simp only[qk,oU];repeat (first | rw[if_pos (by omega)] | rw[if_neg (by omega)]))
theorem G3 {n:Int}(h:4294967296≤n):qk n.toNat=8∧oU n.toNat=27:=by
 constructor <;> (simp only[qk,oU];repeat (first | rw[if_pos (by omega)] | rw[if_neg (by omega)]))
theorem NI (n:Nat):1≤qk n∧qk n≤8:=by
 unfold qk
 repeat' split
 all_goals omega
theorem RE {m n:Int}(aa:0≤m) (hm:m<8) (h0:0≤n) (h:n<24):(#[.int .u8 (32*m+n)]:Array Value).toList=(yv m.toNat n.toNat).map zm:=by
 rw[yv,if_pos (by omega)]
 simp only[List.map_cons,List.map_nil,wU]
 congr 2
 omega
theorem mH (m n:Int) (w:World) (aa:0≤m) (hm:m<8) (h0:0≤n) (h1:n<18446744073709551616) :
  Calls Tryz.prog 141 #[.int .i64 m,.int .u64 n] w fun e w'=>∃ r,e=.returned r∧Fresh w (yv m.toNat n.toNat) r w':=by
 have H1:=Hh h1;have H0:=Hh h0;have K0:IntKind.u8.wrap (32*m+24)=32*m+24:=IntWalk.u8_in _ (by omega);have K1:IntKind.i64.wrap (32*m)=32*m:=IntWalk.i64_in _ (by omega);have K2:IntKind.i64.wrap (32*m+24)=32*m+24:=IntWalk.i64_in _ (by omega);have K3:IntKind.u8.wrap (32*m)=32*m:=IntWalk.u8_in _ (by omega);have hB:=Blk.new w 5 #[.int .u8 (32*m+24)];have xo:=zo w (.cells #[.int .u8 (32*m+24)] 5);clear h1;go_enter Tryz.func141,Tryz.ntmps141
 go_upto_block 0 with fail
 go_cut [5,6] (fun s5 s6 wx=>24≤n∧s5=.slice (some ⟨w.heap.size,0,none⟩) 1 1∧s6=.int .i64 (qk n.toNat:Int)∧Blk wx w.heap.size 5 #[.int .u8 (32*m+(oU n.toNat:Int))]∧Below w.heap.size w wx)
 case first =>
  go_wp2_with fail
  ·go_ret
   have yu:n<24:=by with_reducible assumption
   have hc:=RE aa hm H0.out yu;have yQ:=Blk.new (w.alloc (.cells #[.int .u8 (32*m+24)] 5)) 5 #[.int .u8 (32*m+n)]
   simp only[zr]at yQ
   have dG:1=(yv m.toNat n.toNat).length:=by rw[xF,if_pos (by omega)]
   exact⟨_,rfl,OwnB.blk yQ hc (by omega) (by omega) 1 dG,xo.alloc xo.size _⟩
  ·have og:24≤n:=by with_reducible assumption
   have yu:n<256:=by with_reducible assumption
   obtain⟨e1,e2⟩:=G0 yu;go_meet
   rw[e1,e2]
   exact⟨og,rfl,rfl,hB,xo⟩
  ·have og:24≤n:=by with_reducible assumption
   have ZE:256≤n:=by with_reducible assumption
   have yu:n<65536:=by with_reducible assumption
   obtain⟨e1,e2⟩:=G1 ZE yu;go_meet
   rw[e1,e2];have:=Blk.new w 5 #[.int .u8 (32*m+24+1)];rw[show 32*m+24+1=32*m+((25:Nat):Int) by omega]at this⊢
   exact jdR
  ·have og:24≤n:=by with_reducible assumption
   have ZE:65536≤n:=by with_reducible assumption
   have yu:n<4294967296:=by with_reducible assumption
   obtain⟨e1,e2⟩:=G2 ZE yu;go_meet
   rw[e1,e2];have:=Blk.new w 5 #[.int .u8 (32*m+24+2)];rw[show 32*m+24+2=32*m+((26:Nat):Int) by omega]at this⊢
   exact jdR
  have og:24≤n:=by with_reducible assumption
  have ZE:4294967296≤n:=by with_reducible assumption
  obtain⟨e1,e2⟩:=G3 ZE;go_meet
  rw[e1,e2];have:=Blk.new w 5 #[.int .u8 (32*m+24+3)];rw[show 32*m+24+3=32*m+((27:Nat):Int) by omega]at this⊢
  exact jdR
 case rest =>
 obtain⟨og,rfl,rfl,yQ,zG⟩:=hcut;obtain⟨vV,dJ⟩:=NI n.toNat;have HT:=Hh (Ur m.toNat n.toNat (by omega))
 generalize qk n.toNat=s at *
 have K5:IntKind.i64.wrap ((s:Int)-1)=(s:Int)-1:=IntWalk.i64_in _ (by omega)
 have hO:OwnB wc w.heap.size (.slice (some ⟨w.heap.size,0,none⟩) 1 1) [jl m.toNat n.toNat]:=by
  refine OwnB.blk yQ ?_ (Nat.le_refl _) (by simp) 1 rfl
  simp only[List.map_cons,List.map_nil,jl,wU]
  have:oU n.toNat≤27:=by unfold oU;(repeat' split);all_goals omega
  congr 2
  omega
 go_upto_region 13 with fail
 go_loopw [5,7] (fun v5 v7 wr=>∃ (j:Nat) (VA:Option Addr) (vc:Nat),j≤s∧v7=.int .i64 ((s:Int)-1-j)∧v5=.slice VA (1+j) vc∧OwnB wr w.heap.size (.slice VA (1+j) vc) (jl m.toNat n.toNat::tQ n.toNat s j)∧Below w.heap.size w wr) (fun _ v7 _=>(intOf v7+1).toNat)
 case atStart=>exact⟨0,_,_,by omega,by go_num,rfl,hO,zG⟩
 case round =>
 obtain⟨j,VA,vc,hj,rfl,rfl,ve,xY⟩:=hrel
 by_cases yu:j<s
 ·have ZE:(0:Int)≤(s:Int)-1-j:=by omega
  have xP:(#[.int .u8 (n/2 ^ (8*(s-1-j))%256)]:Array Value).toList=[kz n.toNat s j].map zm:=by
   simp only[List.map_cons,List.map_nil,kz,wU]
   obtain⟨n',rfl⟩:=Int.eq_ofNat_of_zero_le H0.out
   simp
  have xj:=xY.alloc xY.size (.cells #[.int .u8 (n/2 ^ (8*(s-1-j))%256)] 5);have l8:=ve.alloc (.cells #[.int .u8 (n/2 ^ (8*(s-1-j))%256)] 5);have HC:=Hh xP;clear xP;go_wp2_with (at_builtin;refine zH ?_)
  refine zg rfl (.tmp 56) (.tmp 63) rfl w.heap.size _ _ rfl l8 _ 1 _ [kz n.toNat s j] rfl rfl (Src.new _ _ _ _ rfl _ HC.out) (by simp[lV];omega) xj.size fun v' w7 vT ww hat7=>?_
  have MK:(jl m.toNat n.toNat::tQ n.toNat s j)++[kz n.toNat s j]=jl m.toNat n.toNat::tQ n.toNat s (j+1):=by rw[eG];rfl
  obtain⟨VA',vc',rfl,_⟩:=vT.form;have dO:((jl m.toNat n.toNat::tQ n.toNat s j)++[kz n.toNat s j]).length=1+(j+1):=by simp[lV];omega
  rw[dO]at vT;rw[dO];rw[MK]at vT;have um:=jf1;clear MK dO ww hat7 l8 ve xj xY;go_wp2_with fail
  go_roundw
  case rel=>exact⟨j+1,VA',vc',by omega,by rw[show((j+1:Nat):Int)=(j:Int)+1 by omega,show(s:Int)-1-((j:Int)+1)=(s:Int)-1-j-1 by omega],rfl,vT,um⟩
  case measure=>simp[intOf];omega
 have hjs:j=s:=by omega
 subst hjs;have E:Hid (yv m.toNat n.toNat=jl m.toNat n.toNat::tQ n.toNat j j):=HT.out;have zBq:(j:Int)-1-j<0:=by omega
 go_wp2_with fail
 go_ret
 rw[E.out]
 exact⟨_,rfl,ve,xY⟩
theorem tC (a k:Nat) (ha:a<2 ^ 64) (hk:k<64):bits .and .u64 (a:Int) ((2 ^ k-1:Nat):Int)=((a%2 ^ k:Nat):Int):=by
 rw[u64_and_nat a (2 ^ k-1) (by simpa using ha) ?_,Nat.and_two_pow_sub_one_eq_mod];have:2 ^ k<2 ^ 64:=Nat.pow_lt_pow_right (by omega) hk
 omega
theorem mQ (a k b:Nat) (hb:b<2 ^ k) (h:a*2 ^ k+b<2 ^ 64):bits .or .u64 ((a*2 ^ k:Nat):Int) (b:Int)=((a*2 ^ k+b:Nat):Int):=by
 rw[u64_or_nat _ _ (by omega) (by omega),Nat.mul_comm,Nat.two_pow_add_eq_or_of_lt hb]
theorem Of (b k:Nat) (hb:b<2 ^ k) (hk:k<64):bits .or .u64 (b:Int) ((2 ^ k:Nat):Int)=((b+2 ^ k:Nat):Int):=by
 have h1:2 ^ k<2 ^ 64:=Nat.pow_lt_pow_right (by omega) hk;rw[u64_or_nat _ _ (by omega) (by omega),Nat.or_comm];exact jdc
theorem YY (k:Nat) (hk:k<64):IntKind.u64.wrap (IntKind.u64.wrap ((2:Int) ^ k)-1)=((2 ^ k-1:Nat):Int):=by
 have h1:2 ^ k<2 ^ 64:=Nat.pow_lt_pow_right (by omega) hk;have h2:0<2 ^ k:=Nat.two_pow_pos k;have e:(2:Int) ^ k=((2 ^ k:Nat):Int):=by rw[Int.natCast_pow];rfl
 simp only[Nat.reducePow]at h1
 have e1:IntKind.u64.wrap ((2 ^ k:Nat):Int)=((2 ^ k:Nat):Int):=IntWalk.u64_in _ (by omega);rw[e,e1,IntWalk.u64_in _ (by omega)]
 omega
theorem iL (n:Nat) (hn:n<18446744073709551616) (w:World) :
  Calls Tryz.prog 119 #[.int .u64 (n:Int)] w fun e w'=>e=.returned (.bool (isNaN n))∧w=w':=by
 obtain⟨A1,A2⟩:=jgj
 have E:Hid (isNaN n=(((n/2 ^ 52%2 ^ 11:Nat):Int)==2047&&((n%2 ^ 52:Nat):Int) != 0)):=by
  rw[Hid,isNaN,Bool.eq_iff_iff]
  simp only[Bool.and_eq_true,beq_iff_eq,bne_iff_ne]
  omega
 simp only[Nat.reducePow,Nat.reduceSub]at A1 A2 E
 rw[Int.natCast_ediv]at A1;have HN:=Hh hn;have I2:=Hh A1;have Z9:=Hh A2;clear hn A1 A2;go_enter Tryz.func119,Tryz.ntmps119
 go_wp2_with fail
 all_goals
  go_ret
  refine⟨?_,rfl⟩
  have A1:=I2.out;have A2:=Z9.out;have E':=E.out;show Ending.returned (Value.bool _)=_
  clear E I2 Z9 HN
  simp_all
theorem Zg (n:Nat) (hn:n<18446744073709551616) (w:World) :
  Calls Tryz.prog 188 #[.int .u64 (n:Int),.int .i64 5,.int .i64 10] w
   fun e w'=>(∃ v:Nat,e=.returned (.tuple #[.int .u64 (v:Int),.bool (yW n 5 10).isSome])∧∀ x,yW n 5 10=some x→v=x)∧w=w':=by
 obtain⟨A1,A2⟩:=jgj
 simp only[Nat.reducePow,Nat.reduceSub]at A1 A2
 rw[Int.natCast_ediv]at A1;obtain⟨ex,uy⟩:∃ ex,n/4503599627370496%2048=ex:=⟨_,rfl⟩
 obtain⟨mx,gJ⟩:∃ mx,n%4503599627370496=mx:=⟨_,rfl⟩
 obtain⟨sg,UG⟩:∃ sg,n/9223372036854775808=sg:=⟨_,rfl⟩
 have vV:sg≤1:=by omega
 have E:Hid (yW n 5 10=if ex=2047 then(if mx=0 then some (sg*32768+31744) else none) else if ex=0 then(if mx=0 then some (sg*32768) else none)
   else if 1023+31≤ex+15 then none else if 1023<ex+15 then(if mx%4398046511104=0 then some (sg*32768+(ex+15-1023)*1024+mx/4398046511104) else none)
   else if 52<43+(1023-ex-15) then none else if(mx+4503599627370496)%2 ^ (43+(1023-ex-15))=0 then some (sg*32768+(mx+4503599627370496)/2 ^ (43+(1023-ex-15))) else none):=by
  exact jdg
 rw[uy]at A1;rw[gJ]at A2;have Ia:ex<2048:=by omega
 have qu:mx<4503599627370496:=by omega
 obtain⟨A1',A2',K1⟩:=jf3
 have KS:Hid (IntKind.u64.wrap ((n:Int)/9223372036854775808*32768)=((sg*2 ^ 15:Nat):Int)):=by
  rw[Hid,IntWalk.u64_in _ (by omega)]
  omega
 clear hn uy gJ UG A1 A2;go_enter Tryz.func188,Tryz.ntmps188
 go_wp2_with fail
 ·have h1:ex=2047:=by
   exact jdC
  go_ret2
  have EC:=mQ sg 15 31744 (by omega) (by omega)
  refine⟨⟨sg*32768+31744, ?_, ?_⟩,rfl⟩
  ·show Ending.returned (Value.tuple #[Value.int .u64 _,Value.bool _])=_
   rw[KS.out,E.out,if_pos h1];rw[show(31744:Int)=((31744:Nat):Int) from rfl,EC]
   exact jeT
  intro x hx
  rw[E.out,if_pos h1]at hx
  exact jbx
 ·have h1:¬ ex=2047:=by
   exact jbJ
  have h2:ex=0:=by
   exact jcx
  go_ret2
  refine⟨⟨sg*32768, ?_, ?_⟩,rfl⟩
  ·exact jcp
  intro x hx
  rw[E.out,if_neg h1,if_pos h2]at hx
  exact jbx
 all_goals
  have h1:¬ ex=2047:=by
   exact jbJ
  have h2:¬ ex=0:=by
   exact jeK
  rw[if_neg h1,if_neg h2]at E
 ·have h3:1023+31≤ex+15:=by omega
  exact jcL
 ·have h3:¬ 1023+31≤ex+15:=by omega
  have h4:1023<ex+15:=by omega
  obtain⟨q,hq⟩:∃ q,ex+15-1023=q:=⟨_,rfl⟩
  have EI:((ex:Int)-1023+15)*1024=((q*1024:Nat):Int):=by omega
  have fU:(mx:Int)/4398046511104=((mx/4398046511104:Nat):Int):=by omega
  have ha:=tC mx 42 (by omega) (by omega)
  simp only[Nat.reducePow,Nat.reduceSub]at ha
  have QW:=mQ sg 15 (q*1024) (by omega) (by omega);have Wn:=mQ (sg*2 ^ 5+q) 10 (mx/4398046511104) (by omega) (by omega);rw[show(sg*2 ^ 5+q)*2 ^ 10=sg*2 ^ 15+q*1024 by omega]at Wn;go_ret2
  refine⟨⟨sg*32768+q*1024+mx/4398046511104, ?_, ?_⟩,rfl⟩
  ·show Ending.returned (Value.tuple #[Value.int .u64 _,Value.bool _])=_
   rw[KS.out,E.out,if_neg h3,if_pos h4,EI,fU,QW,Wn];have Wb:bits .and .u64 (mx:Int) 4398046511103=((mx%4398046511104:Nat):Int):=ha;rw[Wb]
   by_cases h:mx%4398046511104=0
   ·rw[if_pos h,h];rfl
   rw[if_neg h];have:(((mx%4398046511104:Nat):Int)==0)=false:=by rw[beq_eq_false_iff_ne];omega
   rw[this];rfl
  exact jeW
 ·have h5:52<43+(1023-ex-15):=by omega
  have h3:¬ 1023+31≤ex+15:=by omega
  have h4:¬ 1023<ex+15:=by omega
  exact jch
 have h3:¬ 1023+31≤ex+15:=by omega
 have h4:¬ 1023<ex+15:=by omega
 have h5:¬ 52<43+(1023-ex-15):=by omega
 obtain⟨sh,Wo⟩:∃ sh,43+(1023-ex-15)=sh:=⟨_,rfl⟩
 have Au:(43-((ex:Int)-1023+15)).toNat=sh:=by omega
 obtain⟨full,tO⟩:∃ full,mx+4503599627370496=full:=⟨_,rfl⟩
 have E9:bits .or .u64 (mx:Int) 4503599627370496=(full:Int):=by
  have:=Of mx 52 (by omega) (by omega)
  exact jcY
 have hw:=jgA
 have Dr:(full:Int)/2 ^ sh=((full/2 ^ sh:Nat):Int):=by
  exact jdx
 have yu:full/2 ^ sh<2 ^ 15:=by
  apply Nat.div_lt_of_lt_mul
  have:2 ^ 43≤2 ^ sh:=Nat.pow_le_pow_right (by omega) (by omega);have h2:2 ^ 43*2 ^ 15≤2 ^ sh*2 ^ 15:=Nat.mul_le_mul_right _ this
  exact jc3
 have ho:=mQ sg 15 (full/2 ^ sh) yu (by simp only[Nat.reducePow]at yu⊢;omega);have ha:=tC full sh (by omega) (by omega);go_ret2
 refine⟨⟨sg*32768+full/2 ^ sh, ?_, ?_⟩,rfl⟩
 ·exact jbw
 exact jeS
theorem Zh (n:Nat) (hn:n<18446744073709551616) (w:World) :
  Calls Tryz.prog 188 #[.int .u64 (n:Int),.int .i64 8,.int .i64 23] w
   fun e w'=>(∃ v:Nat,e=.returned (.tuple #[.int .u64 (v:Int),.bool (yW n 8 23).isSome])∧∀ x,yW n 8 23=some x→v=x)∧w=w':=by
 obtain⟨A1,A2⟩:=jgj
 simp only[Nat.reducePow,Nat.reduceSub]at A1 A2
 rw[Int.natCast_ediv]at A1;obtain⟨ex,uy⟩:∃ ex,n/4503599627370496%2048=ex:=⟨_,rfl⟩
 obtain⟨mx,gJ⟩:∃ mx,n%4503599627370496=mx:=⟨_,rfl⟩
 obtain⟨sg,UG⟩:∃ sg,n/9223372036854775808=sg:=⟨_,rfl⟩
 have vV:sg≤1:=by omega
 have E:Hid (yW n 8 23=if ex=2047 then(if mx=0 then some (sg*2147483648+2139095040) else none) else if ex=0 then(if mx=0 then some (sg*2147483648) else none)
   else if 1023+255≤ex+127 then none else if 1023<ex+127 then(if mx%536870912=0 then some (sg*2147483648+(ex+127-1023)*8388608+mx/536870912) else none)
   else if 52<30+(1023-ex-127) then none else if(mx+4503599627370496)%2 ^ (30+(1023-ex-127))=0 then some (sg*2147483648+(mx+4503599627370496)/2 ^ (30+(1023-ex-127))) else none):=by
  exact jdg
 rw[uy]at A1;rw[gJ]at A2;have Ia:ex<2048:=by omega
 have qu:mx<4503599627370496:=by omega
 obtain⟨A1',A2',K1⟩:=jf3
 have KS:Hid (IntKind.u64.wrap ((n:Int)/9223372036854775808*2147483648)=((sg*2 ^ 31:Nat):Int)):=by
  rw[Hid,IntWalk.u64_in _ (by omega)]
  omega
 clear hn uy gJ UG A1 A2;go_enter Tryz.func188,Tryz.ntmps188
 go_wp2_with fail
 ·have h1:ex=2047:=by
   exact jdC
  go_ret2
  have EC:=mQ sg 31 2139095040 (by omega) (by omega)
  refine⟨⟨sg*2147483648+2139095040, ?_, ?_⟩,rfl⟩
  ·show Ending.returned (Value.tuple #[Value.int .u64 _,Value.bool _])=_
   rw[KS.out,E.out,if_pos h1];rw[show(2139095040:Int)=((2139095040:Nat):Int) from rfl,EC]
   exact jeT
  intro x hx
  rw[E.out,if_pos h1]at hx
  exact jbx
 ·have h1:¬ ex=2047:=by
   exact jbJ
  have h2:ex=0:=by
   exact jcx
  go_ret2
  refine⟨⟨sg*2147483648, ?_, ?_⟩,rfl⟩
  ·exact jcp
  intro x hx
  rw[E.out,if_neg h1,if_pos h2]at hx
  exact jbx
 all_goals
  have h1:¬ ex=2047:=by
   exact jbJ
  have h2:¬ ex=0:=by
   exact jeK
  rw[if_neg h1,if_neg h2]at E
 ·have h3:1023+255≤ex+127:=by omega
  exact jcL
 ·have h3:¬ 1023+255≤ex+127:=by omega
  have h4:1023<ex+127:=by omega
  obtain⟨q,hq⟩:∃ q,ex+127-1023=q:=⟨_,rfl⟩
  have EI:((ex:Int)-1023+127)*8388608=((q*8388608:Nat):Int):=by omega
  have fU:(mx:Int)/536870912=((mx/536870912:Nat):Int):=by omega
  have ha:=tC mx 29 (by omega) (by omega)
  simp only[Nat.reducePow,Nat.reduceSub]at ha
  have QW:=mQ sg 31 (q*8388608) (by omega) (by omega);have Wn:=mQ (sg*2 ^ 8+q) 23 (mx/536870912) (by omega) (by omega);rw[show(sg*2 ^ 8+q)*2 ^ 23=sg*2 ^ 31+q*8388608 by omega]at Wn;go_ret2
  refine⟨⟨sg*2147483648+q*8388608+mx/536870912, ?_, ?_⟩,rfl⟩
  ·show Ending.returned (Value.tuple #[Value.int .u64 _,Value.bool _])=_
   rw[KS.out,E.out,if_neg h3,if_pos h4,EI,fU,QW,Wn];have Wb:bits .and .u64 (mx:Int) 536870911=((mx%536870912:Nat):Int):=ha;rw[Wb]
   by_cases h:mx%536870912=0
   ·rw[if_pos h,h];rfl
   rw[if_neg h];have:(((mx%536870912:Nat):Int)==0)=false:=by rw[beq_eq_false_iff_ne];omega
   rw[this];rfl
  exact jeW
 ·have h5:52<30+(1023-ex-127):=by omega
  have h3:¬ 1023+255≤ex+127:=by omega
  have h4:¬ 1023<ex+127:=by omega
  exact jch
 have h3:¬ 1023+255≤ex+127:=by omega
 have h4:¬ 1023<ex+127:=by omega
 have h5:¬ 52<30+(1023-ex-127):=by omega
 obtain⟨sh,Wo⟩:∃ sh,30+(1023-ex-127)=sh:=⟨_,rfl⟩
 have Au:(30-((ex:Int)-1023+127)).toNat=sh:=by omega
 obtain⟨full,tO⟩:∃ full,mx+4503599627370496=full:=⟨_,rfl⟩
 have E9:bits .or .u64 (mx:Int) 4503599627370496=(full:Int):=by
  have:=Of mx 52 (by omega) (by omega)
  exact jcY
 have hw:=jgA
 have Dr:(full:Int)/2 ^ sh=((full/2 ^ sh:Nat):Int):=by
  exact jdx
 have yu:full/2 ^ sh<2 ^ 31:=by
  apply Nat.div_lt_of_lt_mul
  have:2 ^ 30≤2 ^ sh:=Nat.pow_le_pow_right (by omega) (by omega);have h2:2 ^ 30*2 ^ 31≤2 ^ sh*2 ^ 31:=Nat.mul_le_mul_right _ this
  exact jc3
 have ho:=mQ sg 31 (full/2 ^ sh) yu (by simp only[Nat.reducePow]at yu⊢;omega);have ha:=tC full sh (by omega) (by omega);go_ret2
 refine⟨⟨sg*2147483648+full/2 ^ sh, ?_, ?_⟩,rfl⟩
 ·exact jbw
 exact jeS
theorem Rt (n:Nat) (hn:n<18446744073709551616) (w:World) :
  Calls Tryz.prog 142 #[.int .u64 (n:Int)] w fun e w'=>∃ r,e=.returned r∧Fresh w (yx n) r w':=by
 have I:=Hh (iL n hn w);have N1:=Hh (Zg n hn w);have N2:=Hh (Zh n hn w);have HN:=Hh hn;clear hn
 cases hN:isNaN n with
 | true =>
  rw[hN]at I;have E:Hid (yx n=[u8 249,u8 126,u8 0]):=by rw[Hid,yx,if_pos hN]
  clear hN;go_enter Tryz.func142,Tryz.ntmps142
  go_wp2_with fail
  refine I.out.mono ?_
  rintro e w' ⟨rfl,rfl⟩
  exact jc7
 | false =>
 rw[hN]at I
 cases h1:yW n 5 10 with
 | some v =>
  have E:Hid (yx n=[u8 249,u8 (v/256),u8 v]):=by rw[Hid,yx,if_neg (by simp[hN]),h1]
  rw[h1]at N1;clear hN h1;go_enter Tryz.func142,Tryz.ntmps142
  go_wp2_with fail
  refine I.out.mono ?_
  rintro e w' ⟨rfl,rfl⟩
  go_wp2_with fail
  refine N1.out.mono ?_
  rintro e w' ⟨⟨v',rfl,hv⟩,rfl⟩
  obtain rfl:=hv v rfl;clear hv;go_wp2_with fail
  go_ret
  refine⟨_,rfl, ?_⟩
  rw[E.out]
  refine Fresh.lit w _ _ 3 rfl (by simp) ?_
  exact jca
 | none =>
 rw[h1]at N1
 cases h2:yW n 8 23 with
 | some v =>
  have E:Hid (yx n=[u8 250,u8 (v/16777216),u8 (v/65536),u8 (v/256),u8 v]):=by rw[Hid,yx,if_neg (by simp[hN]),h1,h2]
  rw[h2]at N2;clear hN h1 h2;go_enter Tryz.func142,Tryz.ntmps142
  go_wp2_with fail
  refine I.out.mono ?_
  rintro e w' ⟨rfl,rfl⟩
  go_wp2_with fail
  refine N1.out.mono ?_
  rintro e w' ⟨⟨v',rfl,_⟩,rfl⟩
  go_wp2_with fail
  refine N2.out.mono ?_
  rintro e w' ⟨⟨v'',rfl,hv⟩,rfl⟩
  obtain rfl:=hv v rfl;clear hv;go_wp2_with fail
  go_ret
  refine⟨_,rfl, ?_⟩
  rw[E.out]
  refine Fresh.lit w _ _ 5 rfl (by simp) ?_
  exact jca
 | none =>
 have E:Hid (yx n=u8 251::tQ n 8 8):=by
  rw[Hid,yx,if_neg (by simp[hN]),h1,h2]
  simp[tQ,be8,List.range_succ]
 rw[h2]at N2;clear hN h1 h2;have hO:OwnB (w.alloc (.cells #[.int .u8 251] 5)) w.heap.size (.slice (some ⟨w.heap.size,0,none⟩) 1 1) [u8 251]:=OwnB.lit w _ _ _ 1 rfl rfl (Nat.le_refl _) (by simp);have zG:=zo w (.cells #[.int .u8 251] 5);go_enter Tryz.func142,Tryz.ntmps142
 go_wp2_with fail
 refine I.out.mono ?_
 rintro e w' ⟨rfl,rfl⟩
 go_wp2_with fail
 refine N1.out.mono ?_
 rintro e w' ⟨⟨v',rfl,_⟩,rfl⟩
 go_wp2_with fail
 refine N2.out.mono ?_
 rintro e w' ⟨⟨v'',rfl,_⟩,rfl⟩
 go_wp2_with fail
 go_loopw [7,8] (fun v7 v8 wr=>∃ (j:Nat) (VA:Option Addr) (vc:Nat),j≤8∧v8=.int .i64 (7-(j:Int))∧v7=.slice VA (1+j) vc∧OwnB wr w.heap.size (.slice VA (1+j) vc) (u8 251::tQ n 8 j)∧Below w.heap.size w wr) (fun _ v8 _=>(intOf v8+1).toNat)
 case atStart=>exact⟨0,_,_,by omega,by go_num,rfl,hO,zG⟩
 case round =>
 obtain⟨j,VA,vc,hj,rfl,rfl,ve,xY⟩:=hrel
 by_cases yu:j<8
 ·have ZE:(0:Int)≤7-(j:Int):=by omega
  have xP:(#[.int .u8 ((n:Int)/2 ^ (8*(7-j))%256)]:Array Value).toList=[kz n 8 j].map zm:=by
   simp only[List.map_cons,List.map_nil,kz,wU]
   rw[show 8-1-j=7-j by omega]
   simp
  have xj:=xY.alloc xY.size (.cells #[.int .u8 ((n:Int)/2 ^ (8*(7-j))%256)] 5);have l8:=ve.alloc (.cells #[.int .u8 ((n:Int)/2 ^ (8*(7-j))%256)] 5);have HC:=Hh xP;clear xP;go_wp2_with (at_builtin;refine zH ?_)
  refine zg rfl (.tmp 47) (.tmp 54) rfl w.heap.size _ _ rfl l8 _ 1 _ [kz n 8 j] rfl rfl (Src.new _ _ _ _ rfl _ HC.out) (by simp[lV];omega) xj.size fun v' w7 vT ww hat7=>?_
  have MK:(u8 251::tQ n 8 j)++[kz n 8 j]=u8 251::tQ n 8 (j+1):=by rw[eG];rfl
  obtain⟨VA',vc',rfl,_⟩:=vT.form;have dO:((u8 251::tQ n 8 j)++[kz n 8 j]).length=1+(j+1):=by simp[lV];omega
  rw[dO]at vT;rw[dO];rw[MK]at vT;have um:=jf1;clear MK dO ww hat7 l8 ve xj xY;go_wp2_with fail
  go_roundw
  case rel=>exact⟨j+1,VA',vc',by omega,by rw[show((j+1:Nat):Int)=(j:Int)+1 by omega,show(7:Int)-((j:Int)+1)=7-j-1 by omega],rfl,vT,um⟩
  case measure=>simp[intOf];omega
 have hjs:j=8:=by omega
 subst hjs;go_wp2_with fail
 go_ret
 rw[E.out]
 exact⟨_,rfl,ve,xY⟩
end Go.Proofs.YtliomcphdnppnaaGreatDoor
