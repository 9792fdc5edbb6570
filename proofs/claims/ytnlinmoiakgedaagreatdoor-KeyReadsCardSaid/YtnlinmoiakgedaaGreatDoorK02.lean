/- squeezed. Walks: the references' Compare. Wa -/
import Derived.Test.YtnlinmoiakgedaaGreatDoorK01
import Derived.Deep.DeepCutAuto
import Derived.Deep.CutBlock
import Derived.Laws.BitsAllLaws
set_option linter.unusedVariables false
set_option linter.unusedSimpArgs false
set_option maxRecDepth 100000
set_option maxHeartbeats 3200000
namespace Go.Proofs.YtnlinmoiakgedaaGreatDoor
open Go.RowKit
theorem vF (w:World) (A B:Option Addr) (a b:List UInt8) (n m c d:Nat) (hn:n=a.length) (hm:m=b.length) (hna:n≤1099511627776) (Ns:m≤1099511627776) (ha:Src w A (a.map zD)) (hb:Src w B (b.map zD)) :
  Calls Tryz.prog 36 #[.slice A n c,.slice B m d] w fun e w'=>e=.returned (.int .i64 (Lib.compareBytes a b))∧Below w.heap.size w w':=by
 have HN:=Hh hn;have HM:=Hh hm;clear hn hm;go_enter Tryz.func36,Tryz.ntmps36
 go_wp2_with fail
 go_loopw [5] (fun vi wr=>∃ k:Nat,k≤n∧k≤m∧vi=.int .i64 k∧Lib.compareBytes (a.drop k) (b.drop k)=Lib.compareBytes a b∧Below w.heap.size w wr) (fun vi _=>n-(intOf vi).toNat)
 case atStart=>exact⟨0,by omega,by omega,rfl,by simp,Below.refl _ _⟩
 case round =>
  obtain⟨k,tG,sE,rfl,hc,xS⟩:=hrel;have hn:=HN.out;have hm:=HM.out
  by_cases h1:k<n
  ·by_cases h2:k<m
   ·obtain⟨ab,ao,rfl,Nz⟩:=(ha.below xS) (by intro h;simp at h;subst h;simp at hn;omega)
    obtain⟨bb,bo,rfl,Zq⟩:=(hb.below xS) (by intro h;simp at h;subst h;simp at hm;omega)
    have ka:k<a.length:=by omega
    have kb:k<b.length:=by omega
    have p0:=Nz k (zD a[k]) (by simp[ka]);have q0:=Zq k (zD b[k]) (by simp[kb])
    have hd:Lib.compareBytes (a.drop k) (b.drop k)=if a[k]<b[k] then -1 else if b[k]<a[k] then 1 else Lib.compareBytes (a.drop (k+1)) (b.drop (k+1)):=by
     rw[List.drop_eq_getElem_cons ka,List.drop_eq_getElem_cons kb,Lib.compareBytes]
    rw[hc]at hd
    generalize a[k]'ka=x at *
    generalize b[k]'kb=y at *
    have HD:=Hh hd;clear hd hc hn hm Nz Zq ka kb;go_upto_region 4 with fail
    refine zf 8 (fun w'=>w'.cell? ⟨ab,ao+k,none⟩=some (zD x)∧w'.cell? ⟨bb,bo+k,none⟩=some (zD y)) (by kernel_rfl) (⟨p0,q0⟩) (fun zy=>?_)
    refine Tk 0 rfl zy ?_
    refine Tk 1 rfl zy ?_
    refine Tk 2 rfl zy ?_
    refine Tk 3 rfl zy ?_
    refine Tk 4 rfl zy ?_
    refine Tk 5 rfl zy ?_
    refine Tk 6 rfl zy ?_
    refine Tk 7 rfl zy ?_
    refine To 8 rfl fun K hK=>?_
    go_simp
    refine hK.out _ _ (fun h=>absurd rfl h) (fun _=>?_)
    clear hK K
    try simp only[Act.put,zz4,zz5,zz6]
    refine Ways.done (by kernel_rfl) ?_
    clear zy
    by_cases XJ:x=y
    ·subst XJ;have E:Hid (Lib.compareBytes (a.drop (k+1)) (b.drop (k+1))=Lib.compareBytes a b):=by rw[Hid,HD.out,if_neg (UInt8.lt_irrefl x),if_neg (UInt8.lt_irrefl x)]
     have wg:=xS.drew;go_wp2_with fail
     go_roundw
     case rel=>exact⟨k+1,by omega,by omega,by go_num,E.out,wg⟩
     case measure=>simp[intOf];omega
    ·have wd:((x.toNat:Int) != (y.toNat:Int))=true:=by
      rw[bne_iff_ne]
      intro h
      exact XJ (UInt8.toNat_inj.1 (by omega))
     have wg:=xS.drew.drew;have VT:=Hh XJ;clear XJ;go_upto_region 5 with fail
     refine zf 8 (fun w'=>w'.cell? ⟨ab,ao+k,none⟩=some (zD x)∧w'.cell? ⟨bb,bo+k,none⟩=some (zD y)) (by kernel_rfl) (⟨p0,q0⟩) (fun zy=>?_)
     refine Tk 0 rfl zy ?_
     refine Tk 1 rfl zy ?_
     refine Tk 2 rfl zy ?_
     refine Tk 3 rfl zy ?_
     refine Tk 4 rfl zy ?_
     refine Tk 5 rfl zy ?_
     refine Tk 6 rfl zy ?_
     refine Tk 7 rfl zy ?_
     refine To 8 rfl fun K hK=>?_
     go_simp
     refine hK.out _ _ (fun h=>absurd rfl h) (fun _=>?_)
     clear hK K
     try simp only[Act.put,zz4,zz5,zz6]
     refine Ways.done (by kernel_rfl) ?_
     clear zy
     by_cases hl:x<y
     ·have E:Hid (Lib.compareBytes a b = -1):=by rw[Hid,HD.out,if_pos hl]
      have rX:(x.toNat:Int)<(y.toNat:Int):=by have:=UInt8.lt_iff_toNat_lt.1 hl;omega
      clear hl;go_wp2_with fail
      go_ret
      exact⟨by rw[E.out];rfl,wg⟩
     ·have hg:y<x:=by
       have:=VT.out
       rcases Nat.lt_trichotomy x.toNat y.toNat with h | h | h
       ·exact absurd (UInt8.lt_iff_toNat_lt.2 h) hl
       ·exact absurd (UInt8.toNat_inj.1 h) this
       ·exact UInt8.lt_iff_toNat_lt.2 h
      have E:Hid (Lib.compareBytes a b=1):=by rw[Hid,HD.out,if_neg hl,if_pos hg]
      have rX:(y.toNat:Int)≤(x.toNat:Int):=by have:=UInt8.lt_iff_toNat_lt.1 hg;omega
      clear hl hg;go_wp2_with fail
      go_ret
      exact⟨by rw[E.out];rfl,xS.drew.drew⟩
   ·have Qd:k=m:=by omega
    have E:Hid (Lib.compareBytes a b=1):=by
     rw[Hid,← hc,List.drop_eq_getElem_cons (show k<a.length by omega),List.drop_eq_nil_of_le (show b.length≤k by omega),Lib.compareBytes]
    clear hc hn hm;go_wp2_with fail
    go_ret
    exact⟨by rw[E.out];rfl,xS⟩
  ·have Zd:k=n:=by omega
   by_cases h2:k<m
   ·have E:Hid (Lib.compareBytes a b = -1):=by
     rw[Hid,← hc,List.drop_eq_nil_of_le (show a.length≤k by omega),List.drop_eq_getElem_cons (show k<b.length by omega),Lib.compareBytes]
    clear hc hn hm;go_wp2_with fail
    go_ret
    exact⟨by rw[E.out];rfl,xS⟩
   ·have E:Hid (Lib.compareBytes a b=0):=by
     rw[Hid,← hc,List.drop_eq_nil_of_le (show a.length≤k by omega),List.drop_eq_nil_of_le (show b.length≤k by omega),Lib.compareBytes]
    clear hc hn hm;go_wp2_with fail
    go_ret
    exact⟨by rw[E.out];rfl,xS⟩
theorem OwnB.blk {w:World}{g base:Nat}{cs:Array Value}{l:List UInt8}(h:Blk w g 5 cs) (hc:cs.toList=l.map zD) (hb:base≤g) (hm:l.length≤4096) (k:Nat) (hk:k=l.length) :
  OwnB w base (.slice (some ⟨g,0,none⟩) k k) l:=by
 subst hk
 refine⟨by simp,.inr ⟨g,l.length,cs,rfl,hb,h,Nat.le_refl _,by simp only[maxLen];omega, ?_, ?_⟩⟩
 ·rw[← Array.length_toList,hc];simp
 ·rw[hc,Nat.mul_one];exact List.take_of_length_le (by simp)
def uL (n s j:Nat):List UInt8:=(List.range j).map fun t=>u8 (n/2 ^ (8*(s-1-t)))
theorem kN (n s j:Nat):uL n s (j+1)=uL n s j++[u8 (n/2 ^ (8*(s-1-j)))]:=by
 simp[uL,List.range_succ]
theorem pR (n s j:Nat):(uL n s j).length=j:=by simp[uL]
def ot (n s j:Nat):UInt8:=u8 (n/2 ^ (8*(s-1-j)))
def sb (n:Nat):Nat:=if n<256 then 1 else if n<65536 then 2 else if n<4294967296 then 4 else 8
def rR (n:Nat):Nat:=if n<256 then 24 else if n<65536 then 25 else if n<4294967296 then 26 else 27
def nu (m n:Nat):UInt8:=u8 (m*32+rR n)
theorem ce (m n:Nat) (h:24≤n):zm m n=nu m n::uL n (sb n) (sb n):=by
 rw[zm,if_neg (by omega),nu,rR,sb]
 by_cases h1:n<256
 ·simp[h1,uL,List.range_succ]
 by_cases h2:n<65536
 ·simp[h1,h2,uL,List.range_succ]
 by_cases h3:n<4294967296
 ·simp[h1,h2,h3,uL,List.range_succ]
 ·simp[h1,h2,h3,uL,be8,List.range_succ]
theorem Tm {n:Int}(h:n<256):sb n.toNat=1∧rR n.toNat=24:=by
 constructor <;> (simp only[sb,rR];repeat (first | rw[if_pos (by omega)] | rw[if_neg (by omega)]))
theorem Tn {n:Int}(h:256≤n) (h':n<65536):sb n.toNat=2∧rR n.toNat=25:=by
 constructor <;> (simp only[sb,rR];repeat (first | rw[if_pos (by omega)] | rw[if_neg (by omega)]))
theorem Tp {n:Int}(h:65536≤n) (h':n<4294967296):sb n.toNat=4∧rR n.toNat=26:=by
 constructor <;> (simp only[sb,rR];repeat (first | rw[if_pos (by omega)] | rw[if_neg (by omega)]))
theorem Tq {n:Int}(h:4294967296≤n):sb n.toNat=8∧rR n.toNat=27:=by
 constructor <;> (simp only[sb,rR];repeat (first | rw[if_pos (by omega)] | rw[if_neg (by omega)]))
theorem Xr (n:Nat):1≤sb n∧sb n≤8:=by
 unfold sb
 repeat' split
 all_goals omega
theorem a8 {m n:Int}(lQ:0≤m) (hm:m<8) (h0:0≤n) (h:n<24):(#[.int .u8 (32*m+n)]:Array Value).toList=(zm m.toNat n.toNat).map zD:=by
 rw[zm,if_pos (by omega)]
 simp only[List.map_cons,List.map_nil,xA]
 congr 2
 omega
theorem yH (m n:Int) (w:World) (lQ:0≤m) (hm:m<8) (h0:0≤n) (h1:n<18446744073709551616) :
  Calls Tryz.prog 52 #[.int .i64 m,.int .u64 n] w fun e w'=>∃ r,e=.returned r∧Fresh w (zm m.toNat n.toNat) r w':=by
 have H1:=Hh h1;have H0:=Hh h0;have K0:IntKind.u8.wrap (32*m+24)=32*m+24:=IntWalk.u8_in _ (by omega);have K1:IntKind.i64.wrap (32*m)=32*m:=IntWalk.i64_in _ (by omega);have K2:IntKind.i64.wrap (32*m+24)=32*m+24:=IntWalk.i64_in _ (by omega);have K3:IntKind.u8.wrap (32*m)=32*m:=IntWalk.u8_in _ (by omega);have hB:=Blk.new w 5 #[.int .u8 (32*m+24)];have xj:=zi w (.cells #[.int .u8 (32*m+24)] 5);clear h1;go_enter Tryz.func52,Tryz.ntmps52
 go_upto_block 0 with fail
 go_cut [5,6] (fun s5 s6 wx=>24≤n∧s5=.slice (some ⟨w.heap.size,0,none⟩) 1 1∧s6=.int .i64 (sb n.toNat:Int)∧Blk wx w.heap.size 5 #[.int .u8 (32*m+(rR n.toNat:Int))]∧Below w.heap.size w wx)
 case first =>
  go_wp2_with fail
  ·go_ret
   have yi:n<24:=by with_reducible assumption
   have hc:=a8 lQ hm H0.out yi;have yu:=Blk.new (w.alloc (.cells #[.int .u8 (32*m+24)] 5)) 5 #[.int .u8 (32*m+n)]
   simp only[zV]at yu
   have cE:1=(zm m.toNat n.toNat).length:=by rw[zh,if_pos (by omega)]
   exact⟨_,rfl,OwnB.blk yu hc (by omega) (by omega) 1 cE,xj.alloc xj.size _⟩
  ·have ta:24≤n:=by with_reducible assumption
   have yi:n<256:=by with_reducible assumption
   obtain⟨e1,e2⟩:=Tm yi;go_meet
   rw[e1,e2]
   exact⟨ta,rfl,rfl,hB,xj⟩
  ·have ta:24≤n:=by with_reducible assumption
   have nD:256≤n:=by with_reducible assumption
   have yi:n<65536:=by with_reducible assumption
   obtain⟨e1,e2⟩:=Tn nD yi;go_meet
   rw[e1,e2];have:=Blk.new w 5 #[.int .u8 (32*m+24+1)];rw[show 32*m+24+1=32*m+((25:Nat):Int) by omega]at this⊢
   exact⟨ta,rfl,rfl,this,zi _ _⟩
  ·have ta:24≤n:=by with_reducible assumption
   have nD:65536≤n:=by with_reducible assumption
   have yi:n<4294967296:=by with_reducible assumption
   obtain⟨e1,e2⟩:=Tp nD yi;go_meet
   rw[e1,e2];have:=Blk.new w 5 #[.int .u8 (32*m+24+2)];rw[show 32*m+24+2=32*m+((26:Nat):Int) by omega]at this⊢
   exact⟨ta,rfl,rfl,this,zi _ _⟩
  ·have ta:24≤n:=by with_reducible assumption
   have nD:4294967296≤n:=by with_reducible assumption
   obtain⟨e1,e2⟩:=Tq nD;go_meet
   rw[e1,e2];have:=Blk.new w 5 #[.int .u8 (32*m+24+3)];rw[show 32*m+24+3=32*m+((27:Nat):Int) by omega]at this⊢
   exact⟨ta,rfl,rfl,this,zi _ _⟩
 case rest =>
  obtain⟨ta,rfl,rfl,yu,wg⟩:=hcut;obtain⟨xE,vO⟩:=Xr n.toNat;have HT:=Hh (ce m.toNat n.toNat (by omega))
  generalize sb n.toNat=s at *
  have K5:IntKind.i64.wrap ((s:Int)-1)=(s:Int)-1:=IntWalk.i64_in _ (by omega)
  have hO:OwnB wc w.heap.size (.slice (some ⟨w.heap.size,0,none⟩) 1 1) [nu m.toNat n.toNat]:=by
   refine OwnB.blk yu ?_ (Nat.le_refl _) (by simp) 1 rfl
   simp only[List.map_cons,List.map_nil,nu,xA]
   have:rR n.toNat≤27:=by unfold rR;(repeat' split);all_goals omega
   congr 2
   omega
  go_upto_region 13 with fail
  go_loopw [5,7] (fun v5 v7 wr=>∃ (j:Nat) (VA:Option Addr) (vc:Nat),j≤s∧v7=.int .i64 ((s:Int)-1-j)∧v5=.slice VA (1+j) vc∧OwnB wr w.heap.size (.slice VA (1+j) vc) (nu m.toNat n.toNat::uL n.toNat s j)∧Below w.heap.size w wr) (fun _ v7 _=>(intOf v7+1).toNat)
  case atStart=>exact⟨0,_,_,by omega,by go_num,rfl,hO,wg⟩
  case round =>
   obtain⟨j,VA,vc,hj,rfl,rfl,ww,xS⟩:=hrel
   by_cases yi:j<s
   ·have nD:(0:Int)≤(s:Int)-1-j:=by omega
    have xq:(#[.int .u8 (n/2 ^ (8*(s-1-j))%256)]:Array Value).toList=[ot n.toNat s j].map zD:=by
     simp only[List.map_cons,List.map_nil,ot,xA]
     obtain⟨n',rfl⟩:=Int.eq_ofNat_of_zero_le H0.out
     simp
    have tl:=xS.alloc xS.size (.cells #[.int .u8 (n/2 ^ (8*(s-1-j))%256)] 5);have lL:=ww.alloc (.cells #[.int .u8 (n/2 ^ (8*(s-1-j))%256)] 5);have HC:=Hh xq;clear xq;go_wp2_with (at_builtin;refine ye ?_)
    refine zO rfl (.tmp 56) (.tmp 63) rfl w.heap.size _ _ rfl lL _ 1 _ [ot n.toNat s j] rfl rfl (Src.new _ _ _ _ rfl _ HC.out) (by simp[pR];omega) tl.size fun v' w7 xK hg7 hat7=>?_
    have XE:(nu m.toNat n.toNat::uL n.toNat s j)++[ot n.toNat s j]=nu m.toNat n.toNat::uL n.toNat s (j+1):=by rw[kN];rfl
    obtain⟨VA',vc',rfl,_⟩:=xK.form;have lp:((nu m.toNat n.toNat::uL n.toNat s j)++[ot n.toNat s j]).length=1+(j+1):=by simp[pR];omega
    rw[lp]at xK;rw[lp];rw[XE]at xK;have wj:=tl.grown hg7 tl.size (fun q hq=>(lL.lt q hq).1);clear XE lp hg7 hat7 lL ww tl xS;go_wp2_with fail
    go_roundw
    case rel=>exact⟨j+1,VA',vc',by omega,by rw[show((j+1:Nat):Int)=(j:Int)+1 by omega,show(s:Int)-1-((j:Int)+1)=(s:Int)-1-j-1 by omega],rfl,xK,wj⟩
    case measure=>simp[intOf];omega
   ·have Pw:j=s:=by omega
    subst Pw;have E:Hid (zm m.toNat n.toNat=nu m.toNat n.toNat::uL n.toNat j j):=HT.out;have Kg:(j:Int)-1-j<0:=by omega
    go_wp2_with fail
    go_ret
    rw[E.out]
    exact⟨_,rfl,ww,xS⟩
theorem vA (a k:Nat) (ha:a<2 ^ 64) (hk:k<64):bits .and .u64 (a:Int) ((2 ^ k-1:Nat):Int)=((a%2 ^ k:Nat):Int):=by
 rw[u64_and_nat a (2 ^ k-1) (by simpa using ha) ?_,Nat.and_two_pow_sub_one_eq_mod];have:2 ^ k<2 ^ 64:=Nat.pow_lt_pow_right (by omega) hk
 omega
theorem rZ (a k b:Nat) (hb:b<2 ^ k) (h:a*2 ^ k+b<2 ^ 64):bits .or .u64 ((a*2 ^ k:Nat):Int) (b:Int)=((a*2 ^ k+b:Nat):Int):=by
 rw[u64_or_nat _ _ (by omega) (by omega),Nat.mul_comm,Nat.two_pow_add_eq_or_of_lt hb]
theorem Yi (b k:Nat) (hb:b<2 ^ k) (hk:k<64):bits .or .u64 (b:Int) ((2 ^ k:Nat):Int)=((b+2 ^ k:Nat):Int):=by
 have h1:2 ^ k<2 ^ 64:=Nat.pow_lt_pow_right (by omega) hk;rw[u64_or_nat _ _ (by omega) (by omega),Nat.or_comm];have:=Nat.two_pow_add_eq_or_of_lt hb 1;rw[Nat.mul_one]at this;rw[← this,Nat.add_comm]
theorem fk (k:Nat) (hk:k<64):IntKind.u64.wrap (IntKind.u64.wrap ((2:Int) ^ k)-1)=((2 ^ k-1:Nat):Int):=by
 have h1:2 ^ k<2 ^ 64:=Nat.pow_lt_pow_right (by omega) hk;have h2:0<2 ^ k:=Nat.two_pow_pos k;have e:(2:Int) ^ k=((2 ^ k:Nat):Int):=by rw[Int.natCast_pow];rfl
 simp only[Nat.reducePow]at h1
 have e1:IntKind.u64.wrap ((2 ^ k:Nat):Int)=((2 ^ k:Nat):Int):=IntWalk.u64_in _ (by omega);rw[e,e1,IntWalk.u64_in _ (by omega)]
 omega
theorem sT (n:Nat) (hn:n<18446744073709551616) (w:World) :
  Calls Tryz.prog 50 #[.int .u64 (n:Int)] w fun e w'=>e=.returned (.bool (isNaN n))∧w=w':=by
 have A1:=vA (n/2 ^ 52) 11 (by omega) (by omega);have A2:=vA n 52 (by omega) (by omega)
 have E:Hid (isNaN n=(((n/2 ^ 52%2 ^ 11:Nat):Int)==2047&&((n%2 ^ 52:Nat):Int) != 0)):=by
  rw[Hid,isNaN,Bool.eq_iff_iff]
  simp only[Bool.and_eq_true,beq_iff_eq,bne_iff_ne]
  omega
 simp only[Nat.reducePow,Nat.reduceSub]at A1 A2 E
 rw[Int.natCast_ediv]at A1;have HN:=Hh hn;have MH:=Hh A1;have MI:=Hh A2;clear hn A1 A2;go_enter Tryz.func50,Tryz.ntmps50
 go_wp2_with fail
 all_goals
  go_ret
  refine⟨?_,rfl⟩
  have A1:=MH.out;have A2:=MI.out;have E':=E.out;show Ending.returned (Value.bool _)=_
  clear E MH MI HN
  simp_all
theorem i6 (n:Nat) (hn:n<18446744073709551616) (w:World) :
  Calls Tryz.prog 63 #[.int .u64 (n:Int),.int .i64 5,.int .i64 10] w
   fun e w'=>(∃ v:Nat,e=.returned (.tuple #[.int .u64 (v:Int),.bool (yg n 5 10).isSome])∧∀ x,yg n 5 10=some x→v=x)∧w=w':=by
 have A1:=vA (n/2 ^ 52) 11 (by omega) (by omega);have A2:=vA n 52 (by omega) (by omega)
 simp only[Nat.reducePow,Nat.reduceSub]at A1 A2
 rw[Int.natCast_ediv]at A1;obtain⟨ex,uU⟩:∃ ex,n/4503599627370496%2048=ex:=⟨_,rfl⟩
 obtain⟨mx,je⟩:∃ mx,n%4503599627370496=mx:=⟨_,rfl⟩
 obtain⟨sg,cI⟩:∃ sg,n/9223372036854775808=sg:=⟨_,rfl⟩
 have xE:sg≤1:=by omega
 have E:Hid (yg n 5 10=if ex=2047 then(if mx=0 then some (sg*32768+31744) else none) else if ex=0 then(if mx=0 then some (sg*32768) else none)
   else if 1023+31≤ex+15 then none else if 1023<ex+15 then(if mx%4398046511104=0 then some (sg*32768+(ex+15-1023)*1024+mx/4398046511104) else none)
   else if 52<43+(1023-ex-15) then none else if(mx+4503599627370496)%2 ^ (43+(1023-ex-15))=0 then some (sg*32768+(mx+4503599627370496)/2 ^ (43+(1023-ex-15))) else none):=by
  rw[Hid,yg]
  simp only[Nat.reducePow,Nat.reduceSub,Nat.reduceAdd,Nat.reduceMul,uU,je,cI]
 rw[uU]at A1;rw[je]at A2;have Sx:ex<2048:=by omega
 have rn:mx<4503599627370496:=by omega
 have A1':bits .and .u64 ((n:Int)/4503599627370496) 2047=(ex:Int):=A1;have A2':bits .and .u64 (n:Int) 4503599627370495=(mx:Int):=A2;have K1:IntKind.i64.wrap (ex:Int)=(ex:Int):=IntWalk.i64_in _ (by omega)
 have KS:Hid (IntKind.u64.wrap ((n:Int)/9223372036854775808*32768)=((sg*2 ^ 15:Nat):Int)):=by
  rw[Hid,IntWalk.u64_in _ (by omega)]
  omega
 clear hn uU je cI A1 A2;go_enter Tryz.func63,Tryz.ntmps63
 go_wp2_with fail
 ·have h1:ex=2047:=by
   have h:((ex:Int)==2047)=true:=by assumption
   rw[beq_iff_eq]at h
   omega
  go_ret2
  have TA:=rZ sg 15 31744 (by omega) (by omega)
  refine⟨⟨sg*32768+31744, ?_, ?_⟩,rfl⟩
  ·show Ending.returned (Value.tuple #[Value.int .u64 _,Value.bool _])=_
   rw[KS.out,E.out,if_pos h1];rw[show(31744:Int)=((31744:Nat):Int) from rfl,TA]
   by_cases h:mx=0 <;> simp[h]
  ·intro x hx
   rw[E.out,if_pos h1]at hx
   split at hx
   ·injection hx
   ·cases hx
 ·have h1:¬ ex=2047:=by
   have h:((ex:Int)==2047)=false:=by assumption
   rw[beq_eq_false_iff_ne]at h
   omega
  have h2:ex=0:=by
   have h:((ex:Int)==0)=true:=by assumption
   rw[beq_iff_eq]at h
   omega
  go_ret2
  refine⟨⟨sg*32768, ?_, ?_⟩,rfl⟩
  ·show Ending.returned (Value.tuple #[Value.int .u64 _,Value.bool _])=_
   rw[KS.out,E.out,if_neg h1,if_pos h2]
   by_cases h:mx=0 <;> simp[h]
  ·intro x hx
   rw[E.out,if_neg h1,if_pos h2]at hx
   split at hx
   ·injection hx
   ·cases hx
 all_goals
  have h1:¬ ex=2047:=by
   have h:((ex:Int)==2047)=false:=by assumption
   rw[beq_eq_false_iff_ne]at h
   omega
  have h2:¬ ex=0:=by
   have h:((ex:Int)==0)=false:=by assumption
   rw[beq_eq_false_iff_ne]at h
   omega
  rw[if_neg h1,if_neg h2]at E
 ·have h3:1023+31≤ex+15:=by omega
  go_ret2
  refine⟨⟨0, ?_, ?_⟩,rfl⟩
  ·rw[E.out,if_pos h3];rfl
  ·intro x hx
   rw[E.out,if_pos h3]at hx
   cases hx
 ·have h3:¬ 1023+31≤ex+15:=by omega
  have h4:1023<ex+15:=by omega
  obtain⟨q,hq⟩:∃ q,ex+15-1023=q:=⟨_,rfl⟩
  have TC:((ex:Int)-1023+15)*1024=((q*1024:Nat):Int):=by omega
  have eX:(mx:Int)/4398046511104=((mx/4398046511104:Nat):Int):=by omega
  have ha:=vA mx 42 (by omega) (by omega)
  simp only[Nat.reducePow,Nat.reduceSub]at ha
  have Zp:=rZ sg 15 (q*1024) (by omega) (by omega);have eM:=rZ (sg*2 ^ 5+q) 10 (mx/4398046511104) (by omega) (by omega);rw[show(sg*2 ^ 5+q)*2 ^ 10=sg*2 ^ 15+q*1024 by omega]at eM;go_ret2
  refine⟨⟨sg*32768+q*1024+mx/4398046511104, ?_, ?_⟩,rfl⟩
  ·show Ending.returned (Value.tuple #[Value.int .u64 _,Value.bool _])=_
   rw[KS.out,E.out,if_neg h3,if_pos h4,TC,eX,Zp,eM];have Sv:bits .and .u64 (mx:Int) 4398046511103=((mx%4398046511104:Nat):Int):=ha;rw[Sv]
   by_cases h:mx%4398046511104=0
   ·rw[if_pos h,h];rfl
   ·rw[if_neg h];have:(((mx%4398046511104:Nat):Int)==0)=false:=by rw[beq_eq_false_iff_ne];omega
    rw[this];rfl
  ·intro x hx
   rw[E.out,if_neg h3,if_pos h4,hq]at hx
   split at hx
   ·injection hx
   ·cases hx
 ·have h5:52<43+(1023-ex-15):=by omega
  have h3:¬ 1023+31≤ex+15:=by omega
  have h4:¬ 1023<ex+15:=by omega
  go_ret2
  refine⟨⟨0, ?_, ?_⟩,rfl⟩
  ·rw[E.out,if_neg h3,if_neg h4,if_pos h5];rfl
  ·intro x hx
   rw[E.out,if_neg h3,if_neg h4,if_pos h5]at hx
   cases hx
 ·have h3:¬ 1023+31≤ex+15:=by omega
  have h4:¬ 1023<ex+15:=by omega
  have h5:¬ 52<43+(1023-ex-15):=by omega
  obtain⟨sh,cJ⟩:∃ sh,43+(1023-ex-15)=sh:=⟨_,rfl⟩
  have Qk:(43-((ex:Int)-1023+15)).toNat=sh:=by omega
  obtain⟨full,uJ⟩:∃ full,mx+4503599627370496=full:=⟨_,rfl⟩
  have T9:bits .or .u64 (mx:Int) 4503599627370496=(full:Int):=by
   have:=Yi mx 52 (by omega) (by omega)
   simp only[Nat.reducePow]at this
   rw[← uJ]
   exact this
  have hw:IntKind.u64.wrap (IntKind.u64.wrap ((2:Int) ^ sh)-1)=((2 ^ sh-1:Nat):Int):=fk sh (by omega)
  have Sw:(full:Int)/2 ^ sh=((full/2 ^ sh:Nat):Int):=by
   rw[Int.natCast_ediv,Int.natCast_pow];rfl
  have yi:full/2 ^ sh<2 ^ 15:=by
   apply Nat.div_lt_of_lt_mul
   have:2 ^ 43≤2 ^ sh:=Nat.pow_le_pow_right (by omega) (by omega);have h2:2 ^ 43*2 ^ 15≤2 ^ sh*2 ^ 15:=Nat.mul_le_mul_right _ this
   simp only[Nat.reducePow,Nat.reduceMul]at h2⊢
   omega
  have ho:=rZ sg 15 (full/2 ^ sh) yi (by simp only[Nat.reducePow]at yi⊢;omega);have ha:=vA full sh (by omega) (by omega);go_ret2
  refine⟨⟨sg*32768+full/2 ^ sh, ?_, ?_⟩,rfl⟩
  ·show Ending.returned (Value.tuple #[Value.int .u64 _,Value.bool _])=_
   rw[KS.out,E.out,if_neg h3,if_neg h4,if_neg h5,Qk,T9,hw,ha,Sw,ho,cJ,uJ]
   by_cases h:full%2 ^ sh=0
   ·rw[if_pos h,h];rfl
   ·rw[if_neg h];have:(((full%2 ^ sh:Nat):Int)==0)=false:=by rw[beq_eq_false_iff_ne];omega
    rw[this];rfl
  ·intro x hx
   rw[E.out,if_neg h3,if_neg h4,if_neg h5,cJ,uJ]at hx
   split at hx
   ·injection hx
   ·cases hx
theorem i7 (n:Nat) (hn:n<18446744073709551616) (w:World) :
  Calls Tryz.prog 63 #[.int .u64 (n:Int),.int .i64 8,.int .i64 23] w
   fun e w'=>(∃ v:Nat,e=.returned (.tuple #[.int .u64 (v:Int),.bool (yg n 8 23).isSome])∧∀ x,yg n 8 23=some x→v=x)∧w=w':=by
 have A1:=vA (n/2 ^ 52) 11 (by omega) (by omega);have A2:=vA n 52 (by omega) (by omega)
 simp only[Nat.reducePow,Nat.reduceSub]at A1 A2
 rw[Int.natCast_ediv]at A1;obtain⟨ex,uU⟩:∃ ex,n/4503599627370496%2048=ex:=⟨_,rfl⟩
 obtain⟨mx,je⟩:∃ mx,n%4503599627370496=mx:=⟨_,rfl⟩
 obtain⟨sg,cI⟩:∃ sg,n/9223372036854775808=sg:=⟨_,rfl⟩
 have xE:sg≤1:=by omega
 have E:Hid (yg n 8 23=if ex=2047 then(if mx=0 then some (sg*2147483648+2139095040) else none) else if ex=0 then(if mx=0 then some (sg*2147483648) else none)
   else if 1023+255≤ex+127 then none else if 1023<ex+127 then(if mx%536870912=0 then some (sg*2147483648+(ex+127-1023)*8388608+mx/536870912) else none)
   else if 52<30+(1023-ex-127) then none else if(mx+4503599627370496)%2 ^ (30+(1023-ex-127))=0 then some (sg*2147483648+(mx+4503599627370496)/2 ^ (30+(1023-ex-127))) else none):=by
  rw[Hid,yg]
  simp only[Nat.reducePow,Nat.reduceSub,Nat.reduceAdd,Nat.reduceMul,uU,je,cI]
 rw[uU]at A1;rw[je]at A2;have Sx:ex<2048:=by omega
 have rn:mx<4503599627370496:=by omega
 have A1':bits .and .u64 ((n:Int)/4503599627370496) 2047=(ex:Int):=A1;have A2':bits .and .u64 (n:Int) 4503599627370495=(mx:Int):=A2;have K1:IntKind.i64.wrap (ex:Int)=(ex:Int):=IntWalk.i64_in _ (by omega)
 have KS:Hid (IntKind.u64.wrap ((n:Int)/9223372036854775808*2147483648)=((sg*2 ^ 31:Nat):Int)):=by
  rw[Hid,IntWalk.u64_in _ (by omega)]
  omega
 clear hn uU je cI A1 A2;go_enter Tryz.func63,Tryz.ntmps63
 go_wp2_with fail
 ·have h1:ex=2047:=by
   have h:((ex:Int)==2047)=true:=by assumption
   rw[beq_iff_eq]at h
   omega
  go_ret2
  have TA:=rZ sg 31 2139095040 (by omega) (by omega)
  refine⟨⟨sg*2147483648+2139095040, ?_, ?_⟩,rfl⟩
  ·show Ending.returned (Value.tuple #[Value.int .u64 _,Value.bool _])=_
   rw[KS.out,E.out,if_pos h1];rw[show(2139095040:Int)=((2139095040:Nat):Int) from rfl,TA]
   by_cases h:mx=0 <;> simp[h]
  ·intro x hx
   rw[E.out,if_pos h1]at hx
   split at hx
   ·injection hx
   ·cases hx
 ·have h1:¬ ex=2047:=by
   have h:((ex:Int)==2047)=false:=by assumption
   rw[beq_eq_false_iff_ne]at h
   omega
  have h2:ex=0:=by
   have h:((ex:Int)==0)=true:=by assumption
   rw[beq_iff_eq]at h
   omega
  go_ret2
  refine⟨⟨sg*2147483648, ?_, ?_⟩,rfl⟩
  ·show Ending.returned (Value.tuple #[Value.int .u64 _,Value.bool _])=_
   rw[KS.out,E.out,if_neg h1,if_pos h2]
   by_cases h:mx=0 <;> simp[h]
  ·intro x hx
   rw[E.out,if_neg h1,if_pos h2]at hx
   split at hx
   ·injection hx
   ·cases hx
 all_goals
  have h1:¬ ex=2047:=by
   have h:((ex:Int)==2047)=false:=by assumption
   rw[beq_eq_false_iff_ne]at h
   omega
  have h2:¬ ex=0:=by
   have h:((ex:Int)==0)=false:=by assumption
   rw[beq_eq_false_iff_ne]at h
   omega
  rw[if_neg h1,if_neg h2]at E
 ·have h3:1023+255≤ex+127:=by omega
  go_ret2
  refine⟨⟨0, ?_, ?_⟩,rfl⟩
  ·rw[E.out,if_pos h3];rfl
  ·intro x hx
   rw[E.out,if_pos h3]at hx
   cases hx
 ·have h3:¬ 1023+255≤ex+127:=by omega
  have h4:1023<ex+127:=by omega
  obtain⟨q,hq⟩:∃ q,ex+127-1023=q:=⟨_,rfl⟩
  have TC:((ex:Int)-1023+127)*8388608=((q*8388608:Nat):Int):=by omega
  have eX:(mx:Int)/536870912=((mx/536870912:Nat):Int):=by omega
  have ha:=vA mx 29 (by omega) (by omega)
  simp only[Nat.reducePow,Nat.reduceSub]at ha
  have Zp:=rZ sg 31 (q*8388608) (by omega) (by omega);have eM:=rZ (sg*2 ^ 8+q) 23 (mx/536870912) (by omega) (by omega);rw[show(sg*2 ^ 8+q)*2 ^ 23=sg*2 ^ 31+q*8388608 by omega]at eM;go_ret2
  refine⟨⟨sg*2147483648+q*8388608+mx/536870912, ?_, ?_⟩,rfl⟩
  ·show Ending.returned (Value.tuple #[Value.int .u64 _,Value.bool _])=_
   rw[KS.out,E.out,if_neg h3,if_pos h4,TC,eX,Zp,eM];have Sv:bits .and .u64 (mx:Int) 536870911=((mx%536870912:Nat):Int):=ha;rw[Sv]
   by_cases h:mx%536870912=0
   ·rw[if_pos h,h];rfl
   ·rw[if_neg h];have:(((mx%536870912:Nat):Int)==0)=false:=by rw[beq_eq_false_iff_ne];omega
    rw[this];rfl
  ·intro x hx
   rw[E.out,if_neg h3,if_pos h4,hq]at hx
   split at hx
   ·injection hx
   ·cases hx
 ·have h5:52<30+(1023-ex-127):=by omega
  have h3:¬ 1023+255≤ex+127:=by omega
  have h4:¬ 1023<ex+127:=by omega
  go_ret2
  refine⟨⟨0, ?_, ?_⟩,rfl⟩
  ·rw[E.out,if_neg h3,if_neg h4,if_pos h5];rfl
  ·intro x hx
   rw[E.out,if_neg h3,if_neg h4,if_pos h5]at hx
   cases hx
 ·have h3:¬ 1023+255≤ex+127:=by omega
  have h4:¬ 1023<ex+127:=by omega
  have h5:¬ 52<30+(1023-ex-127):=by omega
  obtain⟨sh,cJ⟩:∃ sh,30+(1023-ex-127)=sh:=⟨_,rfl⟩
  have Qk:(30-((ex:Int)-1023+127)).toNat=sh:=by omega
  obtain⟨full,uJ⟩:∃ full,mx+4503599627370496=full:=⟨_,rfl⟩
  have T9:bits .or .u64 (mx:Int) 4503599627370496=(full:Int):=by
   have:=Yi mx 52 (by omega) (by omega)
   simp only[Nat.reducePow]at this
   rw[← uJ]
   exact this
  have hw:IntKind.u64.wrap (IntKind.u64.wrap ((2:Int) ^ sh)-1)=((2 ^ sh-1:Nat):Int):=fk sh (by omega)
  have Sw:(full:Int)/2 ^ sh=((full/2 ^ sh:Nat):Int):=by
   rw[Int.natCast_ediv,Int.natCast_pow];rfl
  have yi:full/2 ^ sh<2 ^ 31:=by
   apply Nat.div_lt_of_lt_mul
   have:2 ^ 30≤2 ^ sh:=Nat.pow_le_pow_right (by omega) (by omega);have h2:2 ^ 30*2 ^ 31≤2 ^ sh*2 ^ 31:=Nat.mul_le_mul_right _ this
   simp only[Nat.reducePow,Nat.reduceMul]at h2⊢
   omega
  have ho:=rZ sg 31 (full/2 ^ sh) yi (by simp only[Nat.reducePow]at yi⊢;omega);have ha:=vA full sh (by omega) (by omega);go_ret2
  refine⟨⟨sg*2147483648+full/2 ^ sh, ?_, ?_⟩,rfl⟩
  ·show Ending.returned (Value.tuple #[Value.int .u64 _,Value.bool _])=_
   rw[KS.out,E.out,if_neg h3,if_neg h4,if_neg h5,Qk,T9,hw,ha,Sw,ho,cJ,uJ]
   by_cases h:full%2 ^ sh=0
   ·rw[if_pos h,h];rfl
   ·rw[if_neg h];have:(((full%2 ^ sh:Nat):Int)==0)=false:=by rw[beq_eq_false_iff_ne];omega
    rw[this];rfl
  ·intro x hx
   rw[E.out,if_neg h3,if_neg h4,if_neg h5,cJ,uJ]at hx
   split at hx
   ·injection hx
   ·cases hx
theorem pP (n:Nat) (hn:n<18446744073709551616) (w:World) :
  Calls Tryz.prog 53 #[.int .u64 (n:Int)] w fun e w'=>∃ r,e=.returned r∧Fresh w (zF n) r w':=by
 have I:=Hh (sT n hn w);have N1:=Hh (i6 n hn w);have N2:=Hh (i7 n hn w);have HN:=Hh hn;clear hn
 cases hN:isNaN n with
 | true =>
  rw[hN]at I;have E:Hid (zF n=[u8 249,u8 126,u8 0]):=by rw[Hid,zF,if_pos hN]
  clear hN;go_enter Tryz.func53,Tryz.ntmps53
  go_wp2_with fail
  refine I.out.mono ?_
  rintro e w' ⟨rfl,rfl⟩
  go_wp2_with fail
  go_ret
  refine⟨_,rfl, ?_⟩
  rw[E.out]
  exact Fresh.lit w _ _ 3 rfl (by simp) rfl
 | false =>
  rw[hN]at I
  cases h1:yg n 5 10 with
  | some v =>
   have E:Hid (zF n=[u8 249,u8 (v/256),u8 v]):=by rw[Hid,zF,if_neg (by simp[hN]),h1]
   rw[h1]at N1;clear hN h1;go_enter Tryz.func53,Tryz.ntmps53
   go_wp2_with fail
   refine I.out.mono ?_
   rintro e w' ⟨rfl,rfl⟩
   go_wp2_with fail
   refine N1.out.mono ?_
   rintro e w' ⟨⟨v',rfl,hv⟩,rfl⟩
   obtain rfl:=hv v rfl;clear hv;go_wp2_with fail
   go_ret
   refine⟨_,rfl, ?_⟩
   rw[E.out]
   refine Fresh.lit w _ _ 3 rfl (by simp) ?_
   simp only[List.map_cons,List.map_nil,xA]
   simp
  | none =>
   rw[h1]at N1
   cases h2:yg n 8 23 with
   | some v =>
    have E:Hid (zF n=[u8 250,u8 (v/16777216),u8 (v/65536),u8 (v/256),u8 v]):=by rw[Hid,zF,if_neg (by simp[hN]),h1,h2]
    rw[h2]at N2;clear hN h1 h2;go_enter Tryz.func53,Tryz.ntmps53
    go_wp2_with fail
    refine I.out.mono ?_
    rintro e w' ⟨rfl,rfl⟩
    go_wp2_with fail
    refine N1.out.mono ?_
    rintro e w' ⟨⟨v',rfl,_⟩,rfl⟩
    go_wp2_with fail
    refine N2.out.mono ?_
    rintro e w' ⟨⟨v'',rfl,hv⟩,rfl⟩
    obtain rfl:=hv v rfl;clear hv;go_wp2_with fail
    go_ret
    refine⟨_,rfl, ?_⟩
    rw[E.out]
    refine Fresh.lit w _ _ 5 rfl (by simp) ?_
    simp only[List.map_cons,List.map_nil,xA]
    simp
   | none =>
    have E:Hid (zF n=u8 251::uL n 8 8):=by
     rw[Hid,zF,if_neg (by simp[hN]),h1,h2]
     simp[uL,be8,List.range_succ]
    rw[h2]at N2;clear hN h1 h2;have hO:OwnB (w.alloc (.cells #[.int .u8 251] 5)) w.heap.size (.slice (some ⟨w.heap.size,0,none⟩) 1 1) [u8 251]:=OwnB.lit w _ _ _ 1 rfl rfl (Nat.le_refl _) (by simp);have wg:=zi w (.cells #[.int .u8 251] 5);go_enter Tryz.func53,Tryz.ntmps53
    go_wp2_with fail
    refine I.out.mono ?_
    rintro e w' ⟨rfl,rfl⟩
    go_wp2_with fail
    refine N1.out.mono ?_
    rintro e w' ⟨⟨v',rfl,_⟩,rfl⟩
    go_wp2_with fail
    refine N2.out.mono ?_
    rintro e w' ⟨⟨v'',rfl,_⟩,rfl⟩
    go_wp2_with fail
    go_loopw [7,8] (fun v7 v8 wr=>∃ (j:Nat) (VA:Option Addr) (vc:Nat),j≤8∧v8=.int .i64 (7-(j:Int))∧v7=.slice VA (1+j) vc∧OwnB wr w.heap.size (.slice VA (1+j) vc) (u8 251::uL n 8 j)∧Below w.heap.size w wr) (fun _ v8 _=>(intOf v8+1).toNat)
    case atStart=>exact⟨0,_,_,by omega,by go_num,rfl,hO,wg⟩
    case round =>
     obtain⟨j,VA,vc,hj,rfl,rfl,ww,xS⟩:=hrel
     by_cases yi:j<8
     ·have nD:(0:Int)≤7-(j:Int):=by omega
      have xq:(#[.int .u8 ((n:Int)/2 ^ (8*(7-j))%256)]:Array Value).toList=[ot n 8 j].map zD:=by
       simp only[List.map_cons,List.map_nil,ot,xA]
       rw[show 8-1-j=7-j by omega]
       simp
      have tl:=xS.alloc xS.size (.cells #[.int .u8 ((n:Int)/2 ^ (8*(7-j))%256)] 5);have lL:=ww.alloc (.cells #[.int .u8 ((n:Int)/2 ^ (8*(7-j))%256)] 5);have HC:=Hh xq;clear xq;go_wp2_with (at_builtin;refine ye ?_)
      refine zO rfl (.tmp 47) (.tmp 54) rfl w.heap.size _ _ rfl lL _ 1 _ [ot n 8 j] rfl rfl (Src.new _ _ _ _ rfl _ HC.out) (by simp[pR];omega) tl.size fun v' w7 xK hg7 hat7=>?_
      have XE:(u8 251::uL n 8 j)++[ot n 8 j]=u8 251::uL n 8 (j+1):=by rw[kN];rfl
      obtain⟨VA',vc',rfl,_⟩:=xK.form;have lp:((u8 251::uL n 8 j)++[ot n 8 j]).length=1+(j+1):=by simp[pR];omega
      rw[lp]at xK;rw[lp];rw[XE]at xK;have wj:=tl.grown hg7 tl.size (fun q hq=>(lL.lt q hq).1);clear XE lp hg7 hat7 lL ww tl xS;go_wp2_with fail
      go_roundw
      case rel=>exact⟨j+1,VA',vc',by omega,by rw[show((j+1:Nat):Int)=(j:Int)+1 by omega,show(7:Int)-((j:Int)+1)=7-j-1 by omega],rfl,xK,wj⟩
      case measure=>simp[intOf];omega
     ·have Pw:j=8:=by omega
      subst Pw;go_wp2_with fail
      go_ret
      rw[E.out]
      exact⟨_,rfl,ww,xS⟩
end Go.Proofs.YtnlinmoiakgedaaGreatDoor
