/- squeezed. Walks: the references' Head. Walks -/
import Derived.Test.YtliomcphdnppnaaGreatDoorK01
import Derived.Deep.CutBlock
import Derived.Laws.BitsAllLaws
set_option linter.unusedVariables false
set_option linter.unusedSimpArgs false
set_option maxRecDepth 100000
set_option maxHeartbeats 3200000
namespace Go.Proofs.YtliomcphdnppnaaGreatDoor
open Go.RowKit
theorem OwnB.blk {w:World}{g base:Nat}{cs:Array Value}{l:List UInt8}(h:Blk w g 5 cs) (hc:cs.toList=l.map zv) (hb:base≤g) (hm:l.length≤4096) (k:Nat) (hk:k=l.length) :
  OwnB w base (.slice (some ⟨g,0,none⟩) k k) l:=by
 subst hk
 refine⟨by simp,.inr ⟨g,l.length,cs,rfl,hb,h,Nat.le_refl _,by simp only[maxLen];omega, ?_, ?_⟩⟩
 ·rw[← Array.length_toList,hc];simp
 rw[hc,Nat.mul_one];exact List.take_of_length_le (by simp)
def uq (n s j:Nat):List UInt8:=(List.range j).map fun t=>u8 (n/2 ^ (8*(s-1-t)))
theorem kS (n s j:Nat):uq n s (j+1)=uq n s j++[u8 (n/2 ^ (8*(s-1-j)))]:=by
 simp[uq,List.range_succ]
theorem pS (n s j:Nat):(uq n s j).length=j:=by simp[uq]
def ov (n s j:Nat):UInt8:=u8 (n/2 ^ (8*(s-1-j)))
def tH (n:Nat):Nat:=if n<256 then 1 else if n<65536 then 2 else if n<4294967296 then 4 else 8
def rY (n:Nat):Nat:=if n<256 then 24 else if n<65536 then 25 else if n<4294967296 then 26 else 27
def oG (m n:Nat):UInt8:=u8 (m*32+rY n)
theorem br (m n:Nat) (h:24≤n):yE m n=oG m n::uq n (tH n) (tH n):=by
 rw[yE,if_neg (by omega),oG,rY,tH]
 by_cases h1:n<256
 ·simp[h1,uq,List.range_succ]
 by_cases h2:n<65536
 ·simp[h1,h2,uq,List.range_succ]
 by_cases h3:n<4294967296
 ·simp[h1,h2,h3,uq,List.range_succ]
 simp[h1,h2,h3,uq,be8,List.range_succ]
theorem Qk {n:Int}(h:n<256):tH n.toNat=1∧rY n.toNat=24:=by
 constructor <;> (simp only[tH,rY];repeat (first | rw[if_pos (by omega)] | rw[if_neg (by omega)]))
theorem Ql {n:Int}(h:256≤n) (h':n<65536):tH n.toNat=2∧rY n.toNat=25:=by
 constructor <;> (simp only[tH,rY];repeat (first | rw[if_pos (by omega)] | rw[if_neg (by omega)]))
theorem Qm {n:Int}(h:65536≤n) (h':n<4294967296):tH n.toNat=4∧rY n.toNat=26:=by
 constructor <;> (simp only[tH,rY];repeat (first | rw[if_pos (by omega)] | rw[if_neg (by omega)]))
theorem Qn {n:Int}(h:4294967296≤n):tH n.toNat=8∧rY n.toNat=27:=by
 constructor <;> (simp only[tH,rY];repeat (first | rw[if_pos (by omega)] | rw[if_neg (by omega)]))
theorem Wr (n:Nat):1≤tH n∧tH n≤8:=by
 unfold tH
 repeat' split
 all_goals omega
theorem ZK {m n:Int}(ft:0≤m) (hm:m<8) (h0:0≤n) (h:n<24):(#[.int .u8 (32*m+n)]:Array Value).toList=(yE m.toNat n.toNat).map zv:=by
 rw[yE,if_pos (by omega)]
 simp only[List.map_cons,List.map_nil,xZ]
 congr 2
 omega
theorem pu (m n:Int) (w:World) (ft:0≤m) (hm:m<8) (h0:0≤n) (h1:n<18446744073709551616) :
  Calls Tryz.prog 141 #[.int .i64 m,.int .u64 n] w fun e w'=>∃ r,e=.returned r∧Fresh w (yE m.toNat n.toNat) r w':=by
 have H1:=Hh h1;have H0:=Hh h0;have K0:IntKind.u8.wrap (32*m+24)=32*m+24:=IntWalk.u8_in _ (by omega);have K1:IntKind.i64.wrap (32*m)=32*m:=IntWalk.i64_in _ (by omega);have K2:IntKind.i64.wrap (32*m+24)=32*m+24:=IntWalk.i64_in _ (by omega);have K3:IntKind.u8.wrap (32*m)=32*m:=IntWalk.u8_in _ (by omega);have hB:=Blk.new w 5 #[.int .u8 (32*m+24)];have xz:=zq w (.cells #[.int .u8 (32*m+24)] 5);clear h1;go_enter Tryz.func141,Tryz.ntmps141
 go_upto_block 0 with fail
 go_cut [5,6] (fun s5 s6 wx=>24≤n∧s5=.slice (some ⟨w.heap.size,0,none⟩) 1 1∧s6=.int .i64 (tH n.toNat:Int)∧Blk wx w.heap.size 5 #[.int .u8 (32*m+(rY n.toNat:Int))]∧Below w.heap.size w wx)
 case first =>
  go_wp2_with fail
  ·go_ret
   have zB:n<24:=by with_reducible assumption
   have hc:=ZK ft hm H0.out zB;have yV:=Blk.new (w.alloc (.cells #[.int .u8 (32*m+24)] 5)) 5 #[.int .u8 (32*m+n)]
   simp only[zu]at yV
   have Yt:1=(yE m.toNat n.toNat).length:=by rw[uz,if_pos (by omega)]
   exact⟨_,rfl,OwnB.blk yV hc (by omega) (by omega) 1 Yt,xz.alloc xz.size _⟩
  ·have jW:24≤n:=by with_reducible assumption
   have zB:n<256:=by with_reducible assumption
   obtain⟨e1,e2⟩:=Qk zB;go_meet
   rw[e1,e2]
   exact⟨jW,rfl,rfl,hB,xz⟩
  ·have jW:24≤n:=by with_reducible assumption
   have fe:256≤n:=by with_reducible assumption
   have zB:n<65536:=by with_reducible assumption
   obtain⟨e1,e2⟩:=Ql fe zB;go_meet
   rw[e1,e2];have:=Blk.new w 5 #[.int .u8 (32*m+24+1)];rw[show 32*m+24+1=32*m+((25:Nat):Int) by omega]at this⊢
   exact⟨jW,rfl,rfl,this,zq _ _⟩
  ·have jW:24≤n:=by with_reducible assumption
   have fe:65536≤n:=by with_reducible assumption
   have zB:n<4294967296:=by with_reducible assumption
   obtain⟨e1,e2⟩:=Qm fe zB;go_meet
   rw[e1,e2];have:=Blk.new w 5 #[.int .u8 (32*m+24+2)];rw[show 32*m+24+2=32*m+((26:Nat):Int) by omega]at this⊢
   exact⟨jW,rfl,rfl,this,zq _ _⟩
  have jW:24≤n:=by with_reducible assumption
  have fe:4294967296≤n:=by with_reducible assumption
  obtain⟨e1,e2⟩:=Qn fe;go_meet
  rw[e1,e2];have:=Blk.new w 5 #[.int .u8 (32*m+24+3)];rw[show 32*m+24+3=32*m+((27:Nat):Int) by omega]at this⊢
  exact⟨jW,rfl,rfl,this,zq _ _⟩
 case rest =>
 obtain⟨jW,rfl,rfl,yV,zG⟩:=hcut;obtain⟨vT,dw⟩:=Wr n.toNat;have HT:=Hh (br m.toNat n.toNat (by omega))
 generalize tH n.toNat=s at *
 have K5:IntKind.i64.wrap ((s:Int)-1)=(s:Int)-1:=IntWalk.i64_in _ (by omega)
 have hO:OwnB wc w.heap.size (.slice (some ⟨w.heap.size,0,none⟩) 1 1) [oG m.toNat n.toNat]:=by
  refine OwnB.blk yV ?_ (Nat.le_refl _) (by simp) 1 rfl
  simp only[List.map_cons,List.map_nil,oG,xZ]
  have:rY n.toNat≤27:=by unfold rY;(repeat' split);all_goals omega
  congr 2
  omega
 go_upto_region 13 with fail
 go_loopw [5,7] (fun v5 v7 wr=>∃ (j:Nat) (VA:Option Addr) (vc:Nat),j≤s∧v7=.int .i64 ((s:Int)-1-j)∧v5=.slice VA (1+j) vc∧OwnB wr w.heap.size (.slice VA (1+j) vc) (oG m.toNat n.toNat::uq n.toNat s j)∧Below w.heap.size w wr) (fun _ v7 _=>(intOf v7+1).toNat)
 case atStart=>exact⟨0,_,_,by omega,by go_num,rfl,hO,zG⟩
 case round =>
 obtain⟨j,VA,vc,hj,rfl,rfl,wG,yS⟩:=hrel
 by_cases zB:j<s
 ·have fe:(0:Int)≤(s:Int)-1-j:=by omega
  have yR:(#[.int .u8 (n/2 ^ (8*(s-1-j))%256)]:Array Value).toList=[ov n.toNat s j].map zv:=by
   simp only[List.map_cons,List.map_nil,ov,xZ]
   obtain⟨n',rfl⟩:=Int.eq_ofNat_of_zero_le H0.out
   simp
  have xn:=yS.alloc yS.size (.cells #[.int .u8 (n/2 ^ (8*(s-1-j))%256)] 5);have oP:=wG.alloc (.cells #[.int .u8 (n/2 ^ (8*(s-1-j))%256)] 5);have HC:=Hh yR;clear yR;go_wp2_with (at_builtin;refine zO ?_)
  refine zn rfl (.tmp 56) (.tmp 63) rfl w.heap.size _ _ rfl oP _ 1 _ [ov n.toNat s j] rfl rfl (Src.new _ _ _ _ rfl _ HC.out) (by simp[pS];omega) xn.size fun v' w7 wj xj hat7=>?_
  have Ta:(oG m.toNat n.toNat::uq n.toNat s j)++[ov n.toNat s j]=oG m.toNat n.toNat::uq n.toNat s (j+1):=by rw[kS];rfl
  obtain⟨VA',vc',rfl,_⟩:=wj.form;have pB:((oG m.toNat n.toNat::uq n.toNat s j)++[ov n.toNat s j]).length=1+(j+1):=by simp[pS];omega
  rw[pB]at wj;rw[pB];rw[Ta]at wj;have vh:=xn.grown xj xn.size (fun q hq=>(oP.lt q hq).1);clear Ta pB xj hat7 oP wG xn yS;go_wp2_with fail
  go_roundw
  case rel=>exact⟨j+1,VA',vc',by omega,by rw[show((j+1:Nat):Int)=(j:Int)+1 by omega,show(s:Int)-1-((j:Int)+1)=(s:Int)-1-j-1 by omega],rfl,wj,vh⟩
  case measure=>simp[intOf];omega
 have LF:j=s:=by omega
 subst LF;have E:Hid (yE m.toNat n.toNat=oG m.toNat n.toNat::uq n.toNat j j):=HT.out;have EF:(j:Int)-1-j<0:=by omega
 go_wp2_with fail
 go_ret
 rw[E.out]
 exact⟨_,rfl,wG,yS⟩
theorem uh (a k:Nat) (ha:a<2 ^ 64) (hk:k<64):bits .and .u64 (a:Int) ((2 ^ k-1:Nat):Int)=((a%2 ^ k:Nat):Int):=by
 rw[u64_and_nat a (2 ^ k-1) (by simpa using ha) ?_,Nat.and_two_pow_sub_one_eq_mod];have:2 ^ k<2 ^ 64:=Nat.pow_lt_pow_right (by omega) hk
 omega
theorem pw (a k b:Nat) (hb:b<2 ^ k) (h:a*2 ^ k+b<2 ^ 64):bits .or .u64 ((a*2 ^ k:Nat):Int) (b:Int)=((a*2 ^ k+b:Nat):Int):=by
 rw[u64_or_nat _ _ (by omega) (by omega),Nat.mul_comm,Nat.two_pow_add_eq_or_of_lt hb]
theorem Xt (b k:Nat) (hb:b<2 ^ k) (hk:k<64):bits .or .u64 (b:Int) ((2 ^ k:Nat):Int)=((b+2 ^ k:Nat):Int):=by
 have h1:2 ^ k<2 ^ 64:=Nat.pow_lt_pow_right (by omega) hk;rw[u64_or_nat _ _ (by omega) (by omega),Nat.or_comm];have:=Nat.two_pow_add_eq_or_of_lt hb 1;rw[Nat.mul_one]at this;rw[← this,Nat.add_comm]
theorem fG (k:Nat) (hk:k<64):IntKind.u64.wrap (IntKind.u64.wrap ((2:Int) ^ k)-1)=((2 ^ k-1:Nat):Int):=by
 have h1:2 ^ k<2 ^ 64:=Nat.pow_lt_pow_right (by omega) hk;have h2:0<2 ^ k:=Nat.two_pow_pos k;have e:(2:Int) ^ k=((2 ^ k:Nat):Int):=by rw[Int.natCast_pow];rfl
 simp only[Nat.reducePow]at h1
 have e1:IntKind.u64.wrap ((2 ^ k:Nat):Int)=((2 ^ k:Nat):Int):=IntWalk.u64_in _ (by omega);rw[e,e1,IntWalk.u64_in _ (by omega)]
 omega
theorem nJ (n:Nat) (hn:n<18446744073709551616) (w:World) :
  Calls Tryz.prog 119 #[.int .u64 (n:Int)] w fun e w'=>e=.returned (.bool (isNaN n))∧w=w':=by
 have A1:=uh (n/2 ^ 52) 11 (by omega) (by omega);have A2:=uh n 52 (by omega) (by omega)
 have E:Hid (isNaN n=(((n/2 ^ 52%2 ^ 11:Nat):Int)==2047&&((n%2 ^ 52:Nat):Int) != 0)):=by
  rw[Hid,isNaN,Bool.eq_iff_iff]
  simp only[Bool.and_eq_true,beq_iff_eq,bne_iff_ne]
  omega
 simp only[Nat.reducePow,Nat.reduceSub]at A1 A2 E
 rw[Int.natCast_ediv]at A1;have HN:=Hh hn;have GK:=Hh A1;have GL:=Hh A2;clear hn A1 A2;go_enter Tryz.func119,Tryz.ntmps119
 go_wp2_with fail
 all_goals
  go_ret
  refine⟨?_,rfl⟩
  have A1:=GK.out;have A2:=GL.out;have E':=E.out;show Ending.returned (Value.bool _)=_
  clear E GK GL HN
  simp_all
theorem g8 (n:Nat) (hn:n<18446744073709551616) (w:World) :
  Calls Tryz.prog 188 #[.int .u64 (n:Int),.int .i64 5,.int .i64 10] w
   fun e w'=>(∃ v:Nat,e=.returned (.tuple #[.int .u64 (v:Int),.bool (xL n 5 10).isSome])∧∀ x,xL n 5 10=some x→v=x)∧w=w':=by
 have A1:=uh (n/2 ^ 52) 11 (by omega) (by omega);have A2:=uh n 52 (by omega) (by omega)
 simp only[Nat.reducePow,Nat.reduceSub]at A1 A2
 rw[Int.natCast_ediv]at A1;obtain⟨ex,vW⟩:∃ ex,n/4503599627370496%2048=ex:=⟨_,rfl⟩
 obtain⟨mx,lg⟩:∃ mx,n%4503599627370496=mx:=⟨_,rfl⟩
 obtain⟨sg,bR⟩:∃ sg,n/9223372036854775808=sg:=⟨_,rfl⟩
 have vT:sg≤1:=by omega
 have E:Hid (xL n 5 10=if ex=2047 then(if mx=0 then some (sg*32768+31744) else none) else if ex=0 then(if mx=0 then some (sg*32768) else none)
   else if 1023+31≤ex+15 then none else if 1023<ex+15 then(if mx%4398046511104=0 then some (sg*32768+(ex+15-1023)*1024+mx/4398046511104) else none)
   else if 52<43+(1023-ex-15) then none else if(mx+4503599627370496)%2 ^ (43+(1023-ex-15))=0 then some (sg*32768+(mx+4503599627370496)/2 ^ (43+(1023-ex-15))) else none):=by
  rw[Hid,xL]
  simp only[Nat.reducePow,Nat.reduceSub,Nat.reduceAdd,Nat.reduceMul,vW,lg,bR]
 rw[vW]at A1;rw[lg]at A2;have Mg:ex<2048:=by omega
 have pJ:mx<4503599627370496:=by omega
 have A1':bits .and .u64 ((n:Int)/4503599627370496) 2047=(ex:Int):=A1;have A2':bits .and .u64 (n:Int) 4503599627370495=(mx:Int):=A2;have K1:IntKind.i64.wrap (ex:Int)=(ex:Int):=IntWalk.i64_in _ (by omega)
 have KS:Hid (IntKind.u64.wrap ((n:Int)/9223372036854775808*32768)=((sg*2 ^ 15:Nat):Int)):=by
  rw[Hid,IntWalk.u64_in _ (by omega)]
  omega
 clear hn vW lg bR A1 A2;go_enter Tryz.func188,Tryz.ntmps188
 go_wp2_with fail
 ·have h1:ex=2047:=by
   have h:((ex:Int)==2047)=true:=by assumption
   rw[beq_iff_eq]at h
   omega
  go_ret2
  have Pi:=pw sg 15 31744 (by omega) (by omega)
  refine⟨⟨sg*32768+31744, ?_, ?_⟩,rfl⟩
  ·show Ending.returned (Value.tuple #[Value.int .u64 _,Value.bool _])=_
   rw[KS.out,E.out,if_pos h1];rw[show(31744:Int)=((31744:Nat):Int) from rfl,Pi]
   by_cases h:mx=0 <;> simp[h]
  intro x hx
  rw[E.out,if_pos h1]at hx
  split at hx
  ·injection hx
  cases hx
 ·have h1:¬ ex=2047:=by
   have h:((ex:Int)==2047)=false:=by assumption
   rw[beq_eq_false_iff_ne]at h
   omega
  have h2:ex=0:=by
   have h:((ex:Int)==0)=true:=by assumption
   rw[beq_iff_eq]at h
   omega
  go_ret2
  refine⟨⟨sg*32768, ?_, ?_⟩,rfl⟩
  ·show Ending.returned (Value.tuple #[Value.int .u64 _,Value.bool _])=_
   rw[KS.out,E.out,if_neg h1,if_pos h2]
   by_cases h:mx=0 <;> simp[h]
  intro x hx
  rw[E.out,if_neg h1,if_pos h2]at hx
  split at hx
  ·injection hx
  cases hx
 all_goals
  have h1:¬ ex=2047:=by
   have h:((ex:Int)==2047)=false:=by assumption
   rw[beq_eq_false_iff_ne]at h
   omega
  have h2:¬ ex=0:=by
   have h:((ex:Int)==0)=false:=by assumption
   rw[beq_eq_false_iff_ne]at h
   omega
  rw[if_neg h1,if_neg h2]at E
 ·have h3:1023+31≤ex+15:=by omega
  go_ret2
  refine⟨⟨0, ?_, ?_⟩,rfl⟩
  ·rw[E.out,if_pos h3];rfl
  intro x hx
  rw[E.out,if_pos h3]at hx
  cases hx
 ·have h3:¬ 1023+31≤ex+15:=by omega
  have h4:1023<ex+15:=by omega
  obtain⟨q,hq⟩:∃ q,ex+15-1023=q:=⟨_,rfl⟩
  have Pl:((ex:Int)-1023+15)*1024=((q*1024:Nat):Int):=by omega
  have dr:(mx:Int)/4398046511104=((mx/4398046511104:Nat):Int):=by omega
  have ha:=uh mx 42 (by omega) (by omega)
  simp only[Nat.reducePow,Nat.reduceSub]at ha
  have Yw:=pw sg 15 (q*1024) (by omega) (by omega);have dV:=pw (sg*2 ^ 5+q) 10 (mx/4398046511104) (by omega) (by omega);rw[show(sg*2 ^ 5+q)*2 ^ 10=sg*2 ^ 15+q*1024 by omega]at dV;go_ret2
  refine⟨⟨sg*32768+q*1024+mx/4398046511104, ?_, ?_⟩,rfl⟩
  ·show Ending.returned (Value.tuple #[Value.int .u64 _,Value.bool _])=_
   rw[KS.out,E.out,if_neg h3,if_pos h4,Pl,dr,Yw,dV];have dT:bits .and .u64 (mx:Int) 4398046511103=((mx%4398046511104:Nat):Int):=ha;rw[dT]
   by_cases h:mx%4398046511104=0
   ·rw[if_pos h,h];rfl
   rw[if_neg h];have:(((mx%4398046511104:Nat):Int)==0)=false:=by rw[beq_eq_false_iff_ne];omega
   rw[this];rfl
  intro x hx
  rw[E.out,if_neg h3,if_pos h4,hq]at hx
  split at hx
  ·injection hx
  cases hx
 ·have h5:52<43+(1023-ex-15):=by omega
  have h3:¬ 1023+31≤ex+15:=by omega
  have h4:¬ 1023<ex+15:=by omega
  go_ret2
  refine⟨⟨0, ?_, ?_⟩,rfl⟩
  ·rw[E.out,if_neg h3,if_neg h4,if_pos h5];rfl
  intro x hx
  rw[E.out,if_neg h3,if_neg h4,if_pos h5]at hx
  cases hx
 have h3:¬ 1023+31≤ex+15:=by omega
 have h4:¬ 1023<ex+15:=by omega
 have h5:¬ 52<43+(1023-ex-15):=by omega
 obtain⟨sh,aT⟩:∃ sh,43+(1023-ex-15)=sh:=⟨_,rfl⟩
 have La:(43-((ex:Int)-1023+15)).toNat=sh:=by omega
 obtain⟨full,sk⟩:∃ full,mx+4503599627370496=full:=⟨_,rfl⟩
 have Ph:bits .or .u64 (mx:Int) 4503599627370496=(full:Int):=by
  have:=Xt mx 52 (by omega) (by omega)
  simp only[Nat.reducePow]at this
  rw[← sk]
  exact this
 have hw:IntKind.u64.wrap (IntKind.u64.wrap ((2:Int) ^ sh)-1)=((2 ^ sh-1:Nat):Int):=fG sh (by omega)
 have PW:(full:Int)/2 ^ sh=((full/2 ^ sh:Nat):Int):=by
  rw[Int.natCast_ediv,Int.natCast_pow];rfl
 have zB:full/2 ^ sh<2 ^ 15:=by
  apply Nat.div_lt_of_lt_mul
  have:2 ^ 43≤2 ^ sh:=Nat.pow_le_pow_right (by omega) (by omega);have h2:2 ^ 43*2 ^ 15≤2 ^ sh*2 ^ 15:=Nat.mul_le_mul_right _ this
  simp only[Nat.reducePow,Nat.reduceMul]at h2⊢
  omega
 have ho:=pw sg 15 (full/2 ^ sh) zB (by simp only[Nat.reducePow]at zB⊢;omega);have ha:=uh full sh (by omega) (by omega);go_ret2
 refine⟨⟨sg*32768+full/2 ^ sh, ?_, ?_⟩,rfl⟩
 ·show Ending.returned (Value.tuple #[Value.int .u64 _,Value.bool _])=_
  rw[KS.out,E.out,if_neg h3,if_neg h4,if_neg h5,La,Ph,hw,ha,PW,ho,aT,sk]
  by_cases h:full%2 ^ sh=0
  ·rw[if_pos h,h];rfl
  rw[if_neg h];have:(((full%2 ^ sh:Nat):Int)==0)=false:=by rw[beq_eq_false_iff_ne];omega
  rw[this];rfl
 intro x hx
 rw[E.out,if_neg h3,if_neg h4,if_neg h5,aT,sk]at hx
 split at hx
 ·injection hx
 cases hx
theorem g9 (n:Nat) (hn:n<18446744073709551616) (w:World) :
  Calls Tryz.prog 188 #[.int .u64 (n:Int),.int .i64 8,.int .i64 23] w
   fun e w'=>(∃ v:Nat,e=.returned (.tuple #[.int .u64 (v:Int),.bool (xL n 8 23).isSome])∧∀ x,xL n 8 23=some x→v=x)∧w=w':=by
 have A1:=uh (n/2 ^ 52) 11 (by omega) (by omega);have A2:=uh n 52 (by omega) (by omega)
 simp only[Nat.reducePow,Nat.reduceSub]at A1 A2
 rw[Int.natCast_ediv]at A1;obtain⟨ex,vW⟩:∃ ex,n/4503599627370496%2048=ex:=⟨_,rfl⟩
 obtain⟨mx,lg⟩:∃ mx,n%4503599627370496=mx:=⟨_,rfl⟩
 obtain⟨sg,bR⟩:∃ sg,n/9223372036854775808=sg:=⟨_,rfl⟩
 have vT:sg≤1:=by omega
 have E:Hid (xL n 8 23=if ex=2047 then(if mx=0 then some (sg*2147483648+2139095040) else none) else if ex=0 then(if mx=0 then some (sg*2147483648) else none)
   else if 1023+255≤ex+127 then none else if 1023<ex+127 then(if mx%536870912=0 then some (sg*2147483648+(ex+127-1023)*8388608+mx/536870912) else none)
   else if 52<30+(1023-ex-127) then none else if(mx+4503599627370496)%2 ^ (30+(1023-ex-127))=0 then some (sg*2147483648+(mx+4503599627370496)/2 ^ (30+(1023-ex-127))) else none):=by
  rw[Hid,xL]
  simp only[Nat.reducePow,Nat.reduceSub,Nat.reduceAdd,Nat.reduceMul,vW,lg,bR]
 rw[vW]at A1;rw[lg]at A2;have Mg:ex<2048:=by omega
 have pJ:mx<4503599627370496:=by omega
 have A1':bits .and .u64 ((n:Int)/4503599627370496) 2047=(ex:Int):=A1;have A2':bits .and .u64 (n:Int) 4503599627370495=(mx:Int):=A2;have K1:IntKind.i64.wrap (ex:Int)=(ex:Int):=IntWalk.i64_in _ (by omega)
 have KS:Hid (IntKind.u64.wrap ((n:Int)/9223372036854775808*2147483648)=((sg*2 ^ 31:Nat):Int)):=by
  rw[Hid,IntWalk.u64_in _ (by omega)]
  omega
 clear hn vW lg bR A1 A2;go_enter Tryz.func188,Tryz.ntmps188
 go_wp2_with fail
 ·have h1:ex=2047:=by
   have h:((ex:Int)==2047)=true:=by assumption
   rw[beq_iff_eq]at h
   omega
  go_ret2
  have Pi:=pw sg 31 2139095040 (by omega) (by omega)
  refine⟨⟨sg*2147483648+2139095040, ?_, ?_⟩,rfl⟩
  ·show Ending.returned (Value.tuple #[Value.int .u64 _,Value.bool _])=_
   rw[KS.out,E.out,if_pos h1];rw[show(2139095040:Int)=((2139095040:Nat):Int) from rfl,Pi]
   by_cases h:mx=0 <;> simp[h]
  intro x hx
  rw[E.out,if_pos h1]at hx
  split at hx
  ·injection hx
  cases hx
 ·have h1:¬ ex=2047:=by
   have h:((ex:Int)==2047)=false:=by assumption
   rw[beq_eq_false_iff_ne]at h
   omega
  have h2:ex=0:=by
   have h:((ex:Int)==0)=true:=by assumption
   rw[beq_iff_eq]at h
   omega
  go_ret2
  refine⟨⟨sg*2147483648, ?_, ?_⟩,rfl⟩
  ·show Ending.returned (Value.tuple #[Value.int .u64 _,Value.bool _])=_
   rw[KS.out,E.out,if_neg h1,if_pos h2]
   by_cases h:mx=0 <;> simp[h]
  intro x hx
  rw[E.out,if_neg h1,if_pos h2]at hx
  split at hx
  ·injection hx
  cases hx
 all_goals
  have h1:¬ ex=2047:=by
   have h:((ex:Int)==2047)=false:=by assumption
   rw[beq_eq_false_iff_ne]at h
   omega
  have h2:¬ ex=0:=by
   have h:((ex:Int)==0)=false:=by assumption
   rw[beq_eq_false_iff_ne]at h
   omega
  rw[if_neg h1,if_neg h2]at E
 ·have h3:1023+255≤ex+127:=by omega
  go_ret2
  refine⟨⟨0, ?_, ?_⟩,rfl⟩
  ·rw[E.out,if_pos h3];rfl
  intro x hx
  rw[E.out,if_pos h3]at hx
  cases hx
 ·have h3:¬ 1023+255≤ex+127:=by omega
  have h4:1023<ex+127:=by omega
  obtain⟨q,hq⟩:∃ q,ex+127-1023=q:=⟨_,rfl⟩
  have Pl:((ex:Int)-1023+127)*8388608=((q*8388608:Nat):Int):=by omega
  have dr:(mx:Int)/536870912=((mx/536870912:Nat):Int):=by omega
  have ha:=uh mx 29 (by omega) (by omega)
  simp only[Nat.reducePow,Nat.reduceSub]at ha
  have Yw:=pw sg 31 (q*8388608) (by omega) (by omega);have dV:=pw (sg*2 ^ 8+q) 23 (mx/536870912) (by omega) (by omega);rw[show(sg*2 ^ 8+q)*2 ^ 23=sg*2 ^ 31+q*8388608 by omega]at dV;go_ret2
  refine⟨⟨sg*2147483648+q*8388608+mx/536870912, ?_, ?_⟩,rfl⟩
  ·show Ending.returned (Value.tuple #[Value.int .u64 _,Value.bool _])=_
   rw[KS.out,E.out,if_neg h3,if_pos h4,Pl,dr,Yw,dV];have dT:bits .and .u64 (mx:Int) 536870911=((mx%536870912:Nat):Int):=ha;rw[dT]
   by_cases h:mx%536870912=0
   ·rw[if_pos h,h];rfl
   rw[if_neg h];have:(((mx%536870912:Nat):Int)==0)=false:=by rw[beq_eq_false_iff_ne];omega
   rw[this];rfl
  intro x hx
  rw[E.out,if_neg h3,if_pos h4,hq]at hx
  split at hx
  ·injection hx
  cases hx
 ·have h5:52<30+(1023-ex-127):=by omega
  have h3:¬ 1023+255≤ex+127:=by omega
  have h4:¬ 1023<ex+127:=by omega
  go_ret2
  refine⟨⟨0, ?_, ?_⟩,rfl⟩
  ·rw[E.out,if_neg h3,if_neg h4,if_pos h5];rfl
  intro x hx
  rw[E.out,if_neg h3,if_neg h4,if_pos h5]at hx
  cases hx
 have h3:¬ 1023+255≤ex+127:=by omega
 have h4:¬ 1023<ex+127:=by omega
 have h5:¬ 52<30+(1023-ex-127):=by omega
 obtain⟨sh,aT⟩:∃ sh,30+(1023-ex-127)=sh:=⟨_,rfl⟩
 have La:(30-((ex:Int)-1023+127)).toNat=sh:=by omega
 obtain⟨full,sk⟩:∃ full,mx+4503599627370496=full:=⟨_,rfl⟩
 have Ph:bits .or .u64 (mx:Int) 4503599627370496=(full:Int):=by
  have:=Xt mx 52 (by omega) (by omega)
  simp only[Nat.reducePow]at this
  rw[← sk]
  exact this
 have hw:IntKind.u64.wrap (IntKind.u64.wrap ((2:Int) ^ sh)-1)=((2 ^ sh-1:Nat):Int):=fG sh (by omega)
 have PW:(full:Int)/2 ^ sh=((full/2 ^ sh:Nat):Int):=by
  rw[Int.natCast_ediv,Int.natCast_pow];rfl
 have zB:full/2 ^ sh<2 ^ 31:=by
  apply Nat.div_lt_of_lt_mul
  have:2 ^ 30≤2 ^ sh:=Nat.pow_le_pow_right (by omega) (by omega);have h2:2 ^ 30*2 ^ 31≤2 ^ sh*2 ^ 31:=Nat.mul_le_mul_right _ this
  simp only[Nat.reducePow,Nat.reduceMul]at h2⊢
  omega
 have ho:=pw sg 31 (full/2 ^ sh) zB (by simp only[Nat.reducePow]at zB⊢;omega);have ha:=uh full sh (by omega) (by omega);go_ret2
 refine⟨⟨sg*2147483648+full/2 ^ sh, ?_, ?_⟩,rfl⟩
 ·show Ending.returned (Value.tuple #[Value.int .u64 _,Value.bool _])=_
  rw[KS.out,E.out,if_neg h3,if_neg h4,if_neg h5,La,Ph,hw,ha,PW,ho,aT,sk]
  by_cases h:full%2 ^ sh=0
  ·rw[if_pos h,h];rfl
  rw[if_neg h];have:(((full%2 ^ sh:Nat):Int)==0)=false:=by rw[beq_eq_false_iff_ne];omega
  rw[this];rfl
 intro x hx
 rw[E.out,if_neg h3,if_neg h4,if_neg h5,aT,sk]at hx
 split at hx
 ·injection hx
 cases hx
theorem Ze (n:Nat) (hn:n<18446744073709551616) (w:World) :
  Calls Tryz.prog 142 #[.int .u64 (n:Int)] w fun e w'=>∃ r,e=.returned r∧Fresh w (yI n) r w':=by
 have I:=Hh (nJ n hn w);have N1:=Hh (g8 n hn w);have N2:=Hh (g9 n hn w);have HN:=Hh hn;clear hn
 cases hN:isNaN n with
 | true =>
  rw[hN]at I;have E:Hid (yI n=[u8 249,u8 126,u8 0]):=by rw[Hid,yI,if_pos hN]
  clear hN;go_enter Tryz.func142,Tryz.ntmps142
  go_wp2_with fail
  refine I.out.mono ?_
  rintro e w' ⟨rfl,rfl⟩
  go_wp2_with fail
  go_ret
  refine⟨_,rfl, ?_⟩
  rw[E.out]
  exact Fresh.lit w _ _ 3 rfl (by simp) rfl
 | false =>
 rw[hN]at I
 cases h1:xL n 5 10 with
 | some v =>
  have E:Hid (yI n=[u8 249,u8 (v/256),u8 v]):=by rw[Hid,yI,if_neg (by simp[hN]),h1]
  rw[h1]at N1;clear hN h1;go_enter Tryz.func142,Tryz.ntmps142
  go_wp2_with fail
  refine I.out.mono ?_
  rintro e w' ⟨rfl,rfl⟩
  go_wp2_with fail
  refine N1.out.mono ?_
  rintro e w' ⟨⟨v',rfl,hv⟩,rfl⟩
  obtain rfl:=hv v rfl;clear hv;go_wp2_with fail
  go_ret
  refine⟨_,rfl, ?_⟩
  rw[E.out]
  refine Fresh.lit w _ _ 3 rfl (by simp) ?_
  simp only[List.map_cons,List.map_nil,xZ]
  simp
 | none =>
 rw[h1]at N1
 cases h2:xL n 8 23 with
 | some v =>
  have E:Hid (yI n=[u8 250,u8 (v/16777216),u8 (v/65536),u8 (v/256),u8 v]):=by rw[Hid,yI,if_neg (by simp[hN]),h1,h2]
  rw[h2]at N2;clear hN h1 h2;go_enter Tryz.func142,Tryz.ntmps142
  go_wp2_with fail
  refine I.out.mono ?_
  rintro e w' ⟨rfl,rfl⟩
  go_wp2_with fail
  refine N1.out.mono ?_
  rintro e w' ⟨⟨v',rfl,_⟩,rfl⟩
  go_wp2_with fail
  refine N2.out.mono ?_
  rintro e w' ⟨⟨v'',rfl,hv⟩,rfl⟩
  obtain rfl:=hv v rfl;clear hv;go_wp2_with fail
  go_ret
  refine⟨_,rfl, ?_⟩
  rw[E.out]
  refine Fresh.lit w _ _ 5 rfl (by simp) ?_
  simp only[List.map_cons,List.map_nil,xZ]
  simp
 | none =>
 have E:Hid (yI n=u8 251::uq n 8 8):=by
  rw[Hid,yI,if_neg (by simp[hN]),h1,h2]
  simp[uq,be8,List.range_succ]
 rw[h2]at N2;clear hN h1 h2;have hO:OwnB (w.alloc (.cells #[.int .u8 251] 5)) w.heap.size (.slice (some ⟨w.heap.size,0,none⟩) 1 1) [u8 251]:=OwnB.lit w _ _ _ 1 rfl rfl (Nat.le_refl _) (by simp);have zG:=zq w (.cells #[.int .u8 251] 5);go_enter Tryz.func142,Tryz.ntmps142
 go_wp2_with fail
 refine I.out.mono ?_
 rintro e w' ⟨rfl,rfl⟩
 go_wp2_with fail
 refine N1.out.mono ?_
 rintro e w' ⟨⟨v',rfl,_⟩,rfl⟩
 go_wp2_with fail
 refine N2.out.mono ?_
 rintro e w' ⟨⟨v'',rfl,_⟩,rfl⟩
 go_wp2_with fail
 go_loopw [7,8] (fun v7 v8 wr=>∃ (j:Nat) (VA:Option Addr) (vc:Nat),j≤8∧v8=.int .i64 (7-(j:Int))∧v7=.slice VA (1+j) vc∧OwnB wr w.heap.size (.slice VA (1+j) vc) (u8 251::uq n 8 j)∧Below w.heap.size w wr) (fun _ v8 _=>(intOf v8+1).toNat)
 case atStart=>exact⟨0,_,_,by omega,by go_num,rfl,hO,zG⟩
 case round =>
 obtain⟨j,VA,vc,hj,rfl,rfl,wG,yS⟩:=hrel
 by_cases zB:j<8
 ·have fe:(0:Int)≤7-(j:Int):=by omega
  have yR:(#[.int .u8 ((n:Int)/2 ^ (8*(7-j))%256)]:Array Value).toList=[ov n 8 j].map zv:=by
   simp only[List.map_cons,List.map_nil,ov,xZ]
   rw[show 8-1-j=7-j by omega]
   simp
  have xn:=yS.alloc yS.size (.cells #[.int .u8 ((n:Int)/2 ^ (8*(7-j))%256)] 5);have oP:=wG.alloc (.cells #[.int .u8 ((n:Int)/2 ^ (8*(7-j))%256)] 5);have HC:=Hh yR;clear yR;go_wp2_with (at_builtin;refine zO ?_)
  refine zn rfl (.tmp 47) (.tmp 54) rfl w.heap.size _ _ rfl oP _ 1 _ [ov n 8 j] rfl rfl (Src.new _ _ _ _ rfl _ HC.out) (by simp[pS];omega) xn.size fun v' w7 wj xj hat7=>?_
  have Ta:(u8 251::uq n 8 j)++[ov n 8 j]=u8 251::uq n 8 (j+1):=by rw[kS];rfl
  obtain⟨VA',vc',rfl,_⟩:=wj.form;have pB:((u8 251::uq n 8 j)++[ov n 8 j]).length=1+(j+1):=by simp[pS];omega
  rw[pB]at wj;rw[pB];rw[Ta]at wj;have vh:=xn.grown xj xn.size (fun q hq=>(oP.lt q hq).1);clear Ta pB xj hat7 oP wG xn yS;go_wp2_with fail
  go_roundw
  case rel=>exact⟨j+1,VA',vc',by omega,by rw[show((j+1:Nat):Int)=(j:Int)+1 by omega,show(7:Int)-((j:Int)+1)=7-j-1 by omega],rfl,wj,vh⟩
  case measure=>simp[intOf];omega
 have LF:j=8:=by omega
 subst LF;go_wp2_with fail
 go_ret
 rw[E.out]
 exact⟨_,rfl,wG,yS⟩
end Go.Proofs.YtliomcphdnppnaaGreatDoor
