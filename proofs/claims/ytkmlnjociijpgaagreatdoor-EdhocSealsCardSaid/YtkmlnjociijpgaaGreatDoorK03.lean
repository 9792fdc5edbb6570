/- squeezed. Walks: the references' Compare. Wa -/
import Derived.Deep.DeepCutAuto
import Derived.Deep.CutBlock
import Derived.Laws.BitsAllLaws
import Derived.Test.YtkmlnjociijpgaaGreatDoorK02
set_option linter.unusedVariables false
set_option linter.unusedSimpArgs false
set_option maxRecDepth 100000
set_option maxHeartbeats 3200000
namespace Go.Proofs.YtkmlnjociijpgaaGreatDoor
open Go.RowKit
theorem jar{P:Prop}(h:P:=by
 clear hk;go_enter Tryz.func86,Tryz.ntmps86
 go_upto_region 9 with fail
 refine zr 10 (fun w'=>w'.cell? ⟨w.heap.size,0,none⟩=some (.int .i64 x.kind)∧w'.cell? ⟨w.heap.size,2,none⟩=some (.slice ba x.bytes.length bc)) (by kernel_rfl) (⟨hB.cell 0 rfl,hB.cell 2 rfl⟩) (fun zy=>?_)
 refine Tk 0 rfl zy ?_
 refine Tk 1 rfl zy ?_
 refine Tk 2 rfl zy ?_
 refine Tk 3 rfl zy ?_
 refine Tk 4 rfl zy ?_
 refine Tk 5 rfl zy ?_
 refine Tk 7 rfl zy ?_
 refine Tk 8 rfl zy ?_
 refine To 6 rfl fun K hK=>?_
 go_simp
 refine(DD.out _).mono ?_
 rintro e w1 ⟨r,rfl,hf⟩
 have qF:=hB.below hf.2;have xZ:=hs.below hf.2;have zY:=yB.trans (hf.2.mono yB.size);have hz:=hf.2.size;obtain⟨RA,rc,rfl,_⟩:=hf.own.form
 refine Ko hK ?_ fun zy=>?_
 ·exact⟨qF.cell 0 rfl,qF.cell 2 rfl⟩
 clear hK K
 refine To 9 rfl fun K hK=>?_
 rw[if_pos (by rfl)]
 refine yV (.tmp 28) (.tmp 30) rfl w.heap.size _ _ rfl (hf.own.more yB.size) _ x.bytes.length _ x.bytes rfl rfl xZ (by omega) zY.size fun v' w2 ui hg2 _=>?_
 have wm:=qF.grown hg2 (fun h=>by have:=(hf.own.lt _ h).1;simp at this;omega);have zD:=zY.grown hg2 zY.size (fun q hq=>Nat.le_trans yB.size (hf.own.lt q hq).1)
 refine Ko hK ?_ fun zy=>?_
 ·exact⟨wm.cell 0 rfl,wm.cell 2 rfl⟩
 clear hK K
 refine To 10 rfl fun K hK=>?_
 go_simp
 refine Kz hK ?_
 clear hK K
 refine Wd ?_
 go_wp2_with fail
 go_ret
 exact⟨_,rfl,by rw[E.out];exact⟨ui,zD⟩⟩):P:=h
theorem jbk{P:Prop}(h:P:=by
 go_enter Tryz.func86,Tryz.ntmps86
 go_wp2_with fail
 refine D.out.mono ?_
 rintro e w1 ⟨r,rfl,hf⟩
 go_wp2_with fail
 go_ret
 exact⟨_,rfl,by rw[E.out];exact hf.step yB⟩):P:=h
theorem jbx{P:Prop}(h:P:=by
 show Ending.returned (Value.tuple #[Value.int .u64 _,Value.bool _])=_
 rw[KS.out,E.out,if_neg h3,if_neg h4,if_neg h5,Fl,Ix,hw,ha,Ij,ho,YQ,ti]
 exact jer):P:=h
theorem jbA{P:Prop}(h:P:=by
 split at hx
 ·injection hx
 cases hx):P:=h
theorem jbL{P:Prop}(h:P:=by
 have h:((ex:Int)==2047)=false:=by assumption
 rw[beq_eq_false_iff_ne]at h
 omega):P:=h
theorem jbV{P:Prop}(h:P:=by
 rw[beq_eq_false_iff_ne]at h
 omega):P:=h
theorem jcb{P:Prop}(h:P:=by
 simp only[List.map_cons,List.map_nil,yC]
 simp):P:=h
theorem jci{P:Prop}(h:P:=by
 go_ret2
 refine⟨⟨0, ?_, ?_⟩,rfl⟩
 ·rw[E.out,if_neg h3,if_neg h4,if_pos h5];rfl
 intro x hx
 rw[E.out,if_neg h3,if_neg h4,if_pos h5]at hx
 cases hx):P:=h
theorem jco{P:Prop}(h:P:=by
 show Ending.returned (Value.tuple #[Value.int .u64 _,Value.bool _])=_
 rw[KS.out,E.out,if_neg h1,if_pos h2]
 exact jeS):P:=h
theorem jcq{P:Prop}(h:P:=by
 clear hc hn hm;go_wp2_with fail
 go_ret
 exact⟨by rw[E.out];rfl,xW⟩):P:=h
theorem jcu{P:Prop}(h:P:=by
 have h:((ex:Int)==0)=true:=by assumption
 rw[beq_iff_eq]at h
 omega):P:=h
theorem jcH{P:Prop}(h:P:=by
 go_ret2
 refine⟨⟨0, ?_, ?_⟩,rfl⟩
 ·rw[E.out,if_pos h3];rfl
 intro x hx
 rw[E.out,if_pos h3]at hx
 cases hx):P:=h
theorem jcQ{P:Prop}(h:P:=by
 simp only[Nat.reducePow]at this
 rw[← ti]
 exact this):P:=h
theorem jcR{P:Prop}(h:P:=by
 simp only[Nat.reducePow,Nat.reduceMul]at h2⊢
 omega):P:=h
theorem jcU{P:Prop}(h:P:=by
 go_wp2_with fail
 go_ret
 refine⟨_,rfl, ?_⟩
 rw[E.out]
 exact Fresh.lit w _ _ 3 rfl (by simp) rfl):P:=h
theorem jc0{P:Prop}(h:P:=by have:=Nat.two_pow_add_eq_or_of_lt hb 1;rw[Nat.mul_one]at this;rw[← this,Nat.add_comm]):P:=h
theorem jc6{P:Prop}(h:P:=by
 rw[Hid,ye]
 simp only[Nat.reducePow,Nat.reduceSub,Nat.reduceAdd,Nat.reduceMul,jo,cf,ag]):P:=h
theorem jdi{P:Prop}(h:P:=by rw[Int.natCast_ediv,Int.natCast_pow];rfl):P:=h
theorem jdn{P:Prop}(h:P:=by
 have h:((ex:Int)==2047)=true:=by assumption
 rw[beq_iff_eq]at h
 omega):P:=h
theorem jdo{P:Prop}(h:P:=by rw[(vN x).2 (by omega)]at h1;cases h1):P:=h
theorem jdB{P:Prop}(h:P:=by exact⟨qo,rfl,rfl,this,zX _ _⟩):P:=h
theorem jdG{P:Prop}(h:P:=by subst h;decide):P:=h
theorem jer{P:Prop}(h:P:=by
 by_cases h:full%2 ^ sh=0
 ·rw[if_pos h,h];rfl
 rw[if_neg h];have:(((full%2 ^ sh:Nat):Int)==0)=false:=by rw[beq_eq_false_iff_ne];omega
 rw[this];rfl):P:=h
theorem jeC{P:Prop}(h:P:=by
 have h:((ex:Int)==0)=false:=by assumption
 exact jbV):P:=h
theorem jeR{P:Prop}(h:P:=by
 intro x hx
 rw[E.out,if_neg h3,if_neg h4,if_neg h5,YQ,ti]at hx
 exact jbA):P:=h
theorem jeS{P:Prop}(h:P:=by by_cases h:mx=0 <;> simp[h]):P:=h
theorem je1{P:Prop}(h:P:=by
 intro x hx
 rw[E.out,if_neg h3,if_pos h4,hq]at hx
 exact jbA):P:=h
theorem jgJ{P:Prop}(h:P:=by have uI:=yR.grown xQ yR.size (fun q hq=>(tR.lt q hq).1);exact uI):P:=h
theorem jgM{P:Prop}(h:P:=by have A1':bits .and .u64 ((n:Int)/4503599627370496) 2047=(ex:Int):=A1;have A2':bits .and .u64 (n:Int) 4503599627370495=(mx:Int):=A2;have K1:IntKind.i64.wrap (ex:Int)=(ex:Int):=IntWalk.i64_in _ (by omega);exact And.intro A1' (And.intro A2' K1)):P:=h
theorem jhc{P:Prop}(h:P:=by have A1:=uO (n/2 ^ 52) 11 (by omega) (by omega);have A2:=uO n 52 (by omega) (by omega);exact And.intro A1 A2):P:=h
theorem jhh{P:Prop}(h:P:=by have hB:=Blk.new w 77 #[.int .i64 x.kind,.int .u64 x.n,.slice ba x.bytes.length bc,.slice ia x.items.length ic];exact hB):P:=h
theorem jhw{P:Prop}(h:P:=by have hw:IntKind.u64.wrap (IntKind.u64.wrap ((2:Int) ^ sh)-1)=((2 ^ sh-1:Nat):Int):=Zq sh (by omega);exact hw):P:=h
theorem jS (w:World) (A B:Option Addr) (a b:List UInt8) (n m c d:Nat) (hn:n=a.length) (hm:m=b.length) (im:n≤1099511627776) (hmb:m≤1099511627776) (ha:Src w A (a.map zu)) (hb:Src w B (b.map zu)) :
  Calls Tryz.prog 38 #[.slice A n c,.slice B m d] w fun e w'=>e=.returned (.int .i64 (Lib.compareBytes a b))∧Below w.heap.size w w':=by
 have HN:=Hh hn;have HM:=Hh hm;clear hn hm;go_enter Tryz.func38,Tryz.ntmps38
 go_wp2_with fail
 go_loopw [5] (fun vi wr=>∃ k:Nat,k≤n∧k≤m∧vi=.int .i64 k∧Lib.compareBytes (a.drop k) (b.drop k)=Lib.compareBytes a b∧Below w.heap.size w wr) (fun vi _=>n-(intOf vi).toNat)
 case atStart=>exact⟨0,by omega,by omega,rfl,by simp,Below.refl _ _⟩
 case round =>
 obtain⟨k,fQ,lf,rfl,hc,xW⟩:=hrel;have hn:=HN.out;have hm:=HM.out
 by_cases h1:k<n
 ·by_cases h2:k<m
  ·obtain⟨ab,ao,rfl,mz⟩:=(ha.below xW) (by intro h;simp at h;subst h;simp at hn;omega)
   obtain⟨bb,bo,rfl,Jc⟩:=(hb.below xW) (by intro h;simp at h;subst h;simp at hm;omega)
   have ka:k<a.length:=by omega
   have kb:k<b.length:=by omega
   have p0:=mz k (zu a[k]) (by simp[ka]);have q0:=Jc k (zu b[k]) (by simp[kb])
   have hd:Lib.compareBytes (a.drop k) (b.drop k)=if a[k]<b[k] then -1 else if b[k]<a[k] then 1 else Lib.compareBytes (a.drop (k+1)) (b.drop (k+1)):=by
    rw[List.drop_eq_getElem_cons ka,List.drop_eq_getElem_cons kb,Lib.compareBytes]
   rw[hc]at hd
   generalize a[k]'ka=x at *
   generalize b[k]'kb=y at *
   have HD:=Hh hd;clear hd hc hn hm mz Jc ka kb;go_upto_region 4 with fail
   refine zr 8 (fun w'=>w'.cell? ⟨ab,ao+k,none⟩=some (zu x)∧w'.cell? ⟨bb,bo+k,none⟩=some (zu y)) (by kernel_rfl) (⟨p0,q0⟩) (fun zy=>?_)
   refine Tk 0 rfl zy ?_
   refine Tk 1 rfl zy ?_
   refine Tk 2 rfl zy ?_
   refine Tk 3 rfl zy ?_
   refine Tk 4 rfl zy ?_
   refine Tk 5 rfl zy ?_
   refine Tk 6 rfl zy ?_
   refine Tk 7 rfl zy ?_
   refine To 8 rfl fun K hK=>?_
   go_simp
   refine Kz hK ?_
   clear hK K
   refine Wd ?_
   clear zy
   by_cases hxy:x=y
   ·subst hxy;have E:Hid (Lib.compareBytes (a.drop (k+1)) (b.drop (k+1))=Lib.compareBytes a b):=by rw[Hid,HD.out,if_neg (UInt8.lt_irrefl x),if_neg (UInt8.lt_irrefl x)]
    have zD:=xW.drew;go_wp2_with fail
    go_roundw
    case rel=>exact⟨k+1,by omega,by omega,by go_num,E.out,zD⟩
    case measure=>simp[intOf];omega
   have xp:((x.toNat:Int) != (y.toNat:Int))=true:=by
    rw[bne_iff_ne]
    intro h
    exact hxy (UInt8.toNat_inj.1 (by omega))
   have zD:=xW.drew.drew;have HXY:=Hh hxy;clear hxy;go_upto_region 5 with fail
   refine zr 8 (fun w'=>w'.cell? ⟨ab,ao+k,none⟩=some (zu x)∧w'.cell? ⟨bb,bo+k,none⟩=some (zu y)) (by kernel_rfl) (⟨p0,q0⟩) (fun zy=>?_)
   refine Tk 0 rfl zy ?_
   refine Tk 1 rfl zy ?_
   refine Tk 2 rfl zy ?_
   refine Tk 3 rfl zy ?_
   refine Tk 4 rfl zy ?_
   refine Tk 5 rfl zy ?_
   refine Tk 6 rfl zy ?_
   refine Tk 7 rfl zy ?_
   refine To 8 rfl fun K hK=>?_
   go_simp
   refine Kz hK ?_
   clear hK K
   refine Wd ?_
   clear zy
   by_cases hl:x<y
   ·have E:Hid (Lib.compareBytes a b = -1):=by rw[Hid,HD.out,if_pos hl]
    have oW:(x.toNat:Int)<(y.toNat:Int):=by have:=UInt8.lt_iff_toNat_lt.1 hl;omega
    clear hl;go_wp2_with fail
    go_ret
    exact⟨by rw[E.out];rfl,zD⟩
   have hg:y<x:=by
    have:=HXY.out
    rcases Nat.lt_trichotomy x.toNat y.toNat with h | h | h
    ·exact absurd (UInt8.lt_iff_toNat_lt.2 h) hl
    ·exact absurd (UInt8.toNat_inj.1 h) this
    exact UInt8.lt_iff_toNat_lt.2 h
   have E:Hid (Lib.compareBytes a b=1):=by rw[Hid,HD.out,if_neg hl,if_pos hg]
   have oW:(y.toNat:Int)≤(x.toNat:Int):=by have:=UInt8.lt_iff_toNat_lt.1 hg;omega
   clear hl hg;go_wp2_with fail
   go_ret
   exact⟨by rw[E.out];rfl,xW.drew.drew⟩
  have hkm:k=m:=by omega
  have E:Hid (Lib.compareBytes a b=1):=by
   rw[Hid,← hc,List.drop_eq_getElem_cons (show k<a.length by omega),List.drop_eq_nil_of_le (show b.length≤k by omega),Lib.compareBytes]
  exact jcq
 have sw:k=n:=by omega
 by_cases h2:k<m
 ·have E:Hid (Lib.compareBytes a b = -1):=by
   rw[Hid,← hc,List.drop_eq_nil_of_le (show a.length≤k by omega),List.drop_eq_getElem_cons (show k<b.length by omega),Lib.compareBytes]
  exact jcq
 have E:Hid (Lib.compareBytes a b=0):=by
  rw[Hid,← hc,List.drop_eq_nil_of_le (show a.length≤k by omega),List.drop_eq_nil_of_le (show b.length≤k by omega),Lib.compareBytes]
 exact jcq
theorem OwnB.blk {w:World}{g base:Nat}{cs:Array Value}{l:List UInt8}(h:Blk w g 5 cs) (hc:cs.toList=l.map zu) (hb:base≤g) (hm:l.length≤4096) (k:Nat) (hk:k=l.length) :
  OwnB w base (.slice (some ⟨g,0,none⟩) k k) l:=by
 subst hk
 refine⟨by simp,.inr ⟨g,l.length,cs,rfl,hb,h,Nat.le_refl _,by simp only[maxLen];omega, ?_, ?_⟩⟩
 ·rw[← Array.length_toList,hc];simp
 exact jdC
def tk (n s j:Nat):List UInt8:=(List.range j).map fun t=>u8 (n/2 ^ (8*(s-1-t)))
theorem g8 (n s j:Nat):tk n s (j+1)=tk n s j++[u8 (n/2 ^ (8*(s-1-j)))]:=by
 simp[tk,List.range_succ]
theorem nN (n s j:Nat):(tk n s j).length=j:=by simp[tk]
def mZ (n s j:Nat):UInt8:=u8 (n/2 ^ (8*(s-1-j)))
def rg (n:Nat):Nat:=if n<256 then 1 else if n<65536 then 2 else if n<4294967296 then 4 else 8
def py (n:Nat):Nat:=if n<256 then 24 else if n<65536 then 25 else if n<4294967296 then 26 else 27
def lK (m n:Nat):UInt8:=u8 (m*32+py n)
theorem Wv (m n:Nat) (h:24≤n):zV m n=lK m n::tk n (rg n) (rg n):=by
 rw[zV,if_neg (by omega),lK,py,rg]
 by_cases h1:n<256
 ·simp[h1,tk,List.range_succ]
 by_cases h2:n<65536
 ·simp[h1,h2,tk,List.range_succ]
 by_cases h3:n<4294967296
 ·simp[h1,h2,h3,tk,List.range_succ]
 simp[h1,h2,h3,tk,be8,List.range_succ]
theorem Js {n:Int}(h:n<256):rg n.toNat=1∧py n.toNat=24:=by
 constructor <;> (simp only[rg,py];repeat (first | rw[if_pos (by omega)] | rw[if_neg (by omega)]))
theorem Jt {n:Int}(h:256≤n) (h':n<65536):rg n.toNat=2∧py n.toNat=25:=by
 constructor <;> (simp only[rg,py];repeat (first | rw[if_pos (by omega)] | rw[if_neg (by omega)]))
theorem Ju {n:Int}(h:65536≤n) (h':n<4294967296):rg n.toNat=4∧py n.toNat=26:=by
 constructor <;> (simp only[rg,py];repeat (first | rw[if_pos (by omega)] | rw[if_neg (by omega)]))
theorem Jv {n:Int}(h:4294967296≤n):rg n.toNat=8∧py n.toNat=27:=by
 constructor <;> (simp only[rg,py];repeat (first | rw[if_pos (by omega)] | rw[if_neg (by omega)]))
theorem Pq (n:Nat):1≤rg n∧rg n≤8:=by
 unfold rg
 repeat' split
 all_goals omega
theorem Ta {m n:Int}(iM:0≤m) (hm:m<8) (h0:0≤n) (h:n<24):(#[.int .u8 (32*m+n)]:Array Value).toList=(zV m.toNat n.toNat).map zu:=by
 rw[zV,if_pos (by omega)]
 simp only[List.map_cons,List.map_nil,yC]
 congr 2
 omega
theorem te (m n:Int) (w:World) (iM:0≤m) (hm:m<8) (h0:0≤n) (h1:n<18446744073709551616) :
  Calls Tryz.prog 85 #[.int .i64 m,.int .u64 n] w fun e w'=>∃ r,e=.returned r∧Fresh w (zV m.toNat n.toNat) r w':=by
 have H1:=Hh h1;have H0:=Hh h0;have K0:IntKind.u8.wrap (32*m+24)=32*m+24:=IntWalk.u8_in _ (by omega);have K1:IntKind.i64.wrap (32*m)=32*m:=IntWalk.i64_in _ (by omega);have K2:IntKind.i64.wrap (32*m+24)=32*m+24:=IntWalk.i64_in _ (by omega);have K3:IntKind.u8.wrap (32*m)=32*m:=IntWalk.u8_in _ (by omega);have hB:=Blk.new w 5 #[.int .u8 (32*m+24)];have yB:=zX w (.cells #[.int .u8 (32*m+24)] 5);clear h1;go_enter Tryz.func85,Tryz.ntmps85
 go_upto_block 0 with fail
 go_cut [5,6] (fun s5 s6 wx=>24≤n∧s5=.slice (some ⟨w.heap.size,0,none⟩) 1 1∧s6=.int .i64 (rg n.toNat:Int)∧Blk wx w.heap.size 5 #[.int .u8 (32*m+(py n.toNat:Int))]∧Below w.heap.size w wx)
 case first =>
  go_wp2_with fail
  ·go_ret
   have z9:n<24:=by with_reducible assumption
   have hc:=Ta iM hm H0.out z9;have wm:=Blk.new (w.alloc (.cells #[.int .u8 (32*m+24)] 5)) 5 #[.int .u8 (32*m+n)]
   simp only[za]at wm
   have Ss:1=(zV m.toNat n.toNat).length:=by rw[yM,if_pos (by omega)]
   exact⟨_,rfl,OwnB.blk wm hc (by omega) (by omega) 1 Ss,yB.alloc yB.size _⟩
  ·have qo:24≤n:=by with_reducible assumption
   have z9:n<256:=by with_reducible assumption
   obtain⟨e1,e2⟩:=Js z9;go_meet
   rw[e1,e2]
   exact⟨qo,rfl,rfl,hB,yB⟩
  ·have qo:24≤n:=by with_reducible assumption
   have iK:256≤n:=by with_reducible assumption
   have z9:n<65536:=by with_reducible assumption
   obtain⟨e1,e2⟩:=Jt iK z9;go_meet
   rw[e1,e2];have:=Blk.new w 5 #[.int .u8 (32*m+24+1)];rw[show 32*m+24+1=32*m+((25:Nat):Int) by omega]at this⊢
   exact jdB
  ·have qo:24≤n:=by with_reducible assumption
   have iK:65536≤n:=by with_reducible assumption
   have z9:n<4294967296:=by with_reducible assumption
   obtain⟨e1,e2⟩:=Ju iK z9;go_meet
   rw[e1,e2];have:=Blk.new w 5 #[.int .u8 (32*m+24+2)];rw[show 32*m+24+2=32*m+((26:Nat):Int) by omega]at this⊢
   exact jdB
  have qo:24≤n:=by with_reducible assumption
  have iK:4294967296≤n:=by with_reducible assumption
  obtain⟨e1,e2⟩:=Jv iK;go_meet
  rw[e1,e2];have:=Blk.new w 5 #[.int .u8 (32*m+24+3)];rw[show 32*m+24+3=32*m+((27:Nat):Int) by omega]at this⊢
  exact jdB
 case rest =>
 obtain⟨qo,rfl,rfl,wm,zD⟩:=hcut;obtain⟨xZ,oX⟩:=Pq n.toNat;have HT:=Hh (Wv m.toNat n.toNat (by omega))
 generalize rg n.toNat=s at *
 have K5:IntKind.i64.wrap ((s:Int)-1)=(s:Int)-1:=IntWalk.i64_in _ (by omega)
 have hO:OwnB wc w.heap.size (.slice (some ⟨w.heap.size,0,none⟩) 1 1) [lK m.toNat n.toNat]:=by
  refine OwnB.blk wm ?_ (Nat.le_refl _) (by simp) 1 rfl
  simp only[List.map_cons,List.map_nil,lK,yC]
  have:py n.toNat≤27:=by unfold py;(repeat' split);all_goals omega
  congr 2
  omega
 go_upto_region 13 with fail
 go_loopw [5,7] (fun v5 v7 wr=>∃ (j:Nat) (VA:Option Addr) (vc:Nat),j≤s∧v7=.int .i64 ((s:Int)-1-j)∧v5=.slice VA (1+j) vc∧OwnB wr w.heap.size (.slice VA (1+j) vc) (lK m.toNat n.toNat::tk n.toNat s j)∧Below w.heap.size w wr) (fun _ v7 _=>(intOf v7+1).toNat)
 case atStart=>exact⟨0,_,_,by omega,by go_num,rfl,hO,zD⟩
 case round =>
 obtain⟨j,VA,vc,hj,rfl,rfl,xe,xW⟩:=hrel
 by_cases z9:j<s
 ·have iK:(0:Int)≤(s:Int)-1-j:=by omega
  have y7:(#[.int .u8 (n/2 ^ (8*(s-1-j))%256)]:Array Value).toList=[mZ n.toNat s j].map zu:=by
   simp only[List.map_cons,List.map_nil,mZ,yC]
   obtain⟨n',rfl⟩:=Int.eq_ofNat_of_zero_le H0.out
   simp
  have yR:=xW.alloc xW.size (.cells #[.int .u8 (n/2 ^ (8*(s-1-j))%256)] 5);have tR:=xe.alloc (.cells #[.int .u8 (n/2 ^ (8*(s-1-j))%256)] 5);have HC:=Hh y7;clear y7;go_wp2_with (at_builtin;refine zh ?_)
  refine zv rfl (.tmp 56) (.tmp 63) rfl w.heap.size _ _ rfl tR _ 1 _ [mZ n.toNat s j] rfl rfl (Src.new _ _ _ _ rfl _ HC.out) (by simp[nN];omega) yR.size fun v' w7 xj xQ hat7=>?_
  have JY:(lK m.toNat n.toNat::tk n.toNat s j)++[mZ n.toNat s j]=lK m.toNat n.toNat::tk n.toNat s (j+1):=by rw[g8];rfl
  obtain⟨VA',vc',rfl,_⟩:=xj.form;have kW:((lK m.toNat n.toNat::tk n.toNat s j)++[mZ n.toNat s j]).length=1+(j+1):=by simp[nN];omega
  rw[kW]at xj;rw[kW];rw[JY]at xj;have uI:=jgJ;clear JY kW xQ hat7 tR xe yR xW;go_wp2_with fail
  go_roundw
  case rel=>exact⟨j+1,VA',vc',by omega,by rw[show((j+1:Nat):Int)=(j:Int)+1 by omega,show(s:Int)-1-((j:Int)+1)=(s:Int)-1-j-1 by omega],rfl,xj,uI⟩
  case measure=>simp[intOf];omega
 have E9:j=s:=by omega
 subst E9;have E:Hid (zV m.toNat n.toNat=lK m.toNat n.toNat::tk n.toNat j j):=HT.out;have zAk:(j:Int)-1-j<0:=by omega
 go_wp2_with fail
 go_ret
 rw[E.out]
 exact⟨_,rfl,xe,xW⟩
theorem uO (a k:Nat) (ha:a<2 ^ 64) (hk:k<64):bits .and .u64 (a:Int) ((2 ^ k-1:Nat):Int)=((a%2 ^ k:Nat):Int):=by
 rw[u64_and_nat a (2 ^ k-1) (by simpa using ha) ?_,Nat.and_two_pow_sub_one_eq_mod];have:2 ^ k<2 ^ 64:=Nat.pow_lt_pow_right (by omega) hk
 omega
theorem qK (a k b:Nat) (hb:b<2 ^ k) (h:a*2 ^ k+b<2 ^ 64):bits .or .u64 ((a*2 ^ k:Nat):Int) (b:Int)=((a*2 ^ k+b:Nat):Int):=by
 rw[u64_or_nat _ _ (by omega) (by omega),Nat.mul_comm,Nat.two_pow_add_eq_or_of_lt hb]
theorem Qv (b k:Nat) (hb:b<2 ^ k) (hk:k<64):bits .or .u64 (b:Int) ((2 ^ k:Nat):Int)=((b+2 ^ k:Nat):Int):=by
 have h1:2 ^ k<2 ^ 64:=Nat.pow_lt_pow_right (by omega) hk;rw[u64_or_nat _ _ (by omega) (by omega),Nat.or_comm];exact jc0
theorem Zq (k:Nat) (hk:k<64):IntKind.u64.wrap (IntKind.u64.wrap ((2:Int) ^ k)-1)=((2 ^ k-1:Nat):Int):=by
 have h1:2 ^ k<2 ^ 64:=Nat.pow_lt_pow_right (by omega) hk;have h2:0<2 ^ k:=Nat.two_pow_pos k;have e:(2:Int) ^ k=((2 ^ k:Nat):Int):=by rw[Int.natCast_pow];rfl
 simp only[Nat.reducePow]at h1
 have e1:IntKind.u64.wrap ((2 ^ k:Nat):Int)=((2 ^ k:Nat):Int):=IntWalk.u64_in _ (by omega);rw[e,e1,IntWalk.u64_in _ (by omega)]
 omega
theorem di (n:Nat) (hn:n<18446744073709551616) (w:World) :
  Calls Tryz.prog 154 #[.int .u64 (n:Int)] w fun e w'=>e=.returned (.bool (isNaN n))∧w=w':=by
 obtain⟨A1,A2⟩:=jhc
 have E:Hid (isNaN n=(((n/2 ^ 52%2 ^ 11:Nat):Int)==2047&&((n%2 ^ 52:Nat):Int) != 0)):=by
  rw[Hid,isNaN,Bool.eq_iff_iff]
  simp only[Bool.and_eq_true,beq_iff_eq,bne_iff_ne]
  omega
 simp only[Nat.reducePow,Nat.reduceSub]at A1 A2 E
 rw[Int.natCast_ediv]at A1;have HN:=Hh hn;have HA1:=Hh A1;have Se:=Hh A2;clear hn A1 A2;go_enter Tryz.func154,Tryz.ntmps154
 go_wp2_with fail
 all_goals
  go_ret
  refine⟨?_,rfl⟩
  have A1:=HA1.out;have A2:=Se.out;have E':=E.out;show Ending.returned (Value.bool _)=_
  clear E HA1 Se HN
  simp_all
theorem bJ (n:Nat) (hn:n<18446744073709551616) (w:World) :
  Calls Tryz.prog 155 #[.int .u64 (n:Int),.int .i64 5,.int .i64 10] w
   fun e w'=>(∃ v:Nat,e=.returned (.tuple #[.int .u64 (v:Int),.bool (ye n 5 10).isSome])∧∀ x,ye n 5 10=some x→v=x)∧w=w':=by
 obtain⟨A1,A2⟩:=jhc
 simp only[Nat.reducePow,Nat.reduceSub]at A1 A2
 rw[Int.natCast_ediv]at A1;obtain⟨ex,jo⟩:∃ ex,n/4503599627370496%2048=ex:=⟨_,rfl⟩
 obtain⟨mx,cf⟩:∃ mx,n%4503599627370496=mx:=⟨_,rfl⟩
 obtain⟨sg,ag⟩:∃ sg,n/9223372036854775808=sg:=⟨_,rfl⟩
 have xZ:sg≤1:=by omega
 have E:Hid (ye n 5 10=if ex=2047 then(if mx=0 then some (sg*32768+31744) else none) else if ex=0 then(if mx=0 then some (sg*32768) else none)
   else if 1023+31≤ex+15 then none else if 1023<ex+15 then(if mx%4398046511104=0 then some (sg*32768+(ex+15-1023)*1024+mx/4398046511104) else none)
   else if 52<43+(1023-ex-15) then none else if(mx+4503599627370496)%2 ^ (43+(1023-ex-15))=0 then some (sg*32768+(mx+4503599627370496)/2 ^ (43+(1023-ex-15))) else none):=by
  exact jc6
 rw[jo]at A1;rw[cf]at A2;have Ik:ex<2048:=by omega
 have qq:mx<4503599627370496:=by omega
 obtain⟨A1',A2',K1⟩:=jgM
 have KS:Hid (IntKind.u64.wrap ((n:Int)/9223372036854775808*32768)=((sg*2 ^ 15:Nat):Int)):=by
  rw[Hid,IntWalk.u64_in _ (by omega)]
  omega
 clear hn jo cf ag A1 A2;go_enter Tryz.func155,Tryz.ntmps155
 go_wp2_with fail
 ·have h1:ex=2047:=by
   exact jdn
  go_ret2
  have Iy:=qK sg 15 31744 (by omega) (by omega)
  refine⟨⟨sg*32768+31744, ?_, ?_⟩,rfl⟩
  ·show Ending.returned (Value.tuple #[Value.int .u64 _,Value.bool _])=_
   rw[KS.out,E.out,if_pos h1];rw[show(31744:Int)=((31744:Nat):Int) from rfl,Iy]
   exact jeS
  intro x hx
  rw[E.out,if_pos h1]at hx
  exact jbA
 ·have h1:¬ ex=2047:=by
   exact jbL
  have h2:ex=0:=by
   exact jcu
  go_ret2
  refine⟨⟨sg*32768, ?_, ?_⟩,rfl⟩
  ·exact jco
  intro x hx
  rw[E.out,if_neg h1,if_pos h2]at hx
  exact jbA
 all_goals
  have h1:¬ ex=2047:=by
   exact jbL
  have h2:¬ ex=0:=by
   exact jeC
  rw[if_neg h1,if_neg h2]at E
 ·have h3:1023+31≤ex+15:=by omega
  exact jcH
 ·have h3:¬ 1023+31≤ex+15:=by omega
  have h4:1023<ex+15:=by omega
  obtain⟨q,hq⟩:∃ q,ex+15-1023=q:=⟨_,rfl⟩
  have J0:((ex:Int)-1023+15)*1024=((q*1024:Nat):Int):=by omega
  have WY:(mx:Int)/4398046511104=((mx/4398046511104:Nat):Int):=by omega
  have ha:=uO mx 42 (by omega) (by omega)
  simp only[Nat.reducePow,Nat.reduceSub]at ha
  have Ms:=qK sg 15 (q*1024) (by omega) (by omega);have SO:=qK (sg*2 ^ 5+q) 10 (mx/4398046511104) (by omega) (by omega);rw[show(sg*2 ^ 5+q)*2 ^ 10=sg*2 ^ 15+q*1024 by omega]at SO;go_ret2
  refine⟨⟨sg*32768+q*1024+mx/4398046511104, ?_, ?_⟩,rfl⟩
  ·show Ending.returned (Value.tuple #[Value.int .u64 _,Value.bool _])=_
   rw[KS.out,E.out,if_neg h3,if_pos h4,J0,WY,Ms,SO];have Sm:bits .and .u64 (mx:Int) 4398046511103=((mx%4398046511104:Nat):Int):=ha;rw[Sm]
   by_cases h:mx%4398046511104=0
   ·rw[if_pos h,h];rfl
   rw[if_neg h];have:(((mx%4398046511104:Nat):Int)==0)=false:=by rw[beq_eq_false_iff_ne];omega
   rw[this];rfl
  exact je1
 ·have h5:52<43+(1023-ex-15):=by omega
  have h3:¬ 1023+31≤ex+15:=by omega
  have h4:¬ 1023<ex+15:=by omega
  exact jci
 have h3:¬ 1023+31≤ex+15:=by omega
 have h4:¬ 1023<ex+15:=by omega
 have h5:¬ 52<43+(1023-ex-15):=by omega
 obtain⟨sh,YQ⟩:∃ sh,43+(1023-ex-15)=sh:=⟨_,rfl⟩
 have Fl:(43-((ex:Int)-1023+15)).toNat=sh:=by omega
 obtain⟨full,ti⟩:∃ full,mx+4503599627370496=full:=⟨_,rfl⟩
 have Ix:bits .or .u64 (mx:Int) 4503599627370496=(full:Int):=by
  have:=Qv mx 52 (by omega) (by omega)
  exact jcQ
 have hw:=jhw
 have Ij:(full:Int)/2 ^ sh=((full/2 ^ sh:Nat):Int):=by
  exact jdi
 have z9:full/2 ^ sh<2 ^ 15:=by
  apply Nat.div_lt_of_lt_mul
  have:2 ^ 43≤2 ^ sh:=Nat.pow_le_pow_right (by omega) (by omega);have h2:2 ^ 43*2 ^ 15≤2 ^ sh*2 ^ 15:=Nat.mul_le_mul_right _ this
  exact jcR
 have ho:=qK sg 15 (full/2 ^ sh) z9 (by simp only[Nat.reducePow]at z9⊢;omega);have ha:=uO full sh (by omega) (by omega);go_ret2
 refine⟨⟨sg*32768+full/2 ^ sh, ?_, ?_⟩,rfl⟩
 ·exact jbx
 exact jeR
theorem bK (n:Nat) (hn:n<18446744073709551616) (w:World) :
  Calls Tryz.prog 155 #[.int .u64 (n:Int),.int .i64 8,.int .i64 23] w
   fun e w'=>(∃ v:Nat,e=.returned (.tuple #[.int .u64 (v:Int),.bool (ye n 8 23).isSome])∧∀ x,ye n 8 23=some x→v=x)∧w=w':=by
 obtain⟨A1,A2⟩:=jhc
 simp only[Nat.reducePow,Nat.reduceSub]at A1 A2
 rw[Int.natCast_ediv]at A1;obtain⟨ex,jo⟩:∃ ex,n/4503599627370496%2048=ex:=⟨_,rfl⟩
 obtain⟨mx,cf⟩:∃ mx,n%4503599627370496=mx:=⟨_,rfl⟩
 obtain⟨sg,ag⟩:∃ sg,n/9223372036854775808=sg:=⟨_,rfl⟩
 have xZ:sg≤1:=by omega
 have E:Hid (ye n 8 23=if ex=2047 then(if mx=0 then some (sg*2147483648+2139095040) else none) else if ex=0 then(if mx=0 then some (sg*2147483648) else none)
   else if 1023+255≤ex+127 then none else if 1023<ex+127 then(if mx%536870912=0 then some (sg*2147483648+(ex+127-1023)*8388608+mx/536870912) else none)
   else if 52<30+(1023-ex-127) then none else if(mx+4503599627370496)%2 ^ (30+(1023-ex-127))=0 then some (sg*2147483648+(mx+4503599627370496)/2 ^ (30+(1023-ex-127))) else none):=by
  exact jc6
 rw[jo]at A1;rw[cf]at A2;have Ik:ex<2048:=by omega
 have qq:mx<4503599627370496:=by omega
 obtain⟨A1',A2',K1⟩:=jgM
 have KS:Hid (IntKind.u64.wrap ((n:Int)/9223372036854775808*2147483648)=((sg*2 ^ 31:Nat):Int)):=by
  rw[Hid,IntWalk.u64_in _ (by omega)]
  omega
 clear hn jo cf ag A1 A2;go_enter Tryz.func155,Tryz.ntmps155
 go_wp2_with fail
 ·have h1:ex=2047:=by
   exact jdn
  go_ret2
  have Iy:=qK sg 31 2139095040 (by omega) (by omega)
  refine⟨⟨sg*2147483648+2139095040, ?_, ?_⟩,rfl⟩
  ·show Ending.returned (Value.tuple #[Value.int .u64 _,Value.bool _])=_
   rw[KS.out,E.out,if_pos h1];rw[show(2139095040:Int)=((2139095040:Nat):Int) from rfl,Iy]
   exact jeS
  intro x hx
  rw[E.out,if_pos h1]at hx
  exact jbA
 ·have h1:¬ ex=2047:=by
   exact jbL
  have h2:ex=0:=by
   exact jcu
  go_ret2
  refine⟨⟨sg*2147483648, ?_, ?_⟩,rfl⟩
  ·exact jco
  intro x hx
  rw[E.out,if_neg h1,if_pos h2]at hx
  exact jbA
 all_goals
  have h1:¬ ex=2047:=by
   exact jbL
  have h2:¬ ex=0:=by
   exact jeC
  rw[if_neg h1,if_neg h2]at E
 ·have h3:1023+255≤ex+127:=by omega
  exact jcH
 ·have h3:¬ 1023+255≤ex+127:=by omega
  have h4:1023<ex+127:=by omega
  obtain⟨q,hq⟩:∃ q,ex+127-1023=q:=⟨_,rfl⟩
  have J0:((ex:Int)-1023+127)*8388608=((q*8388608:Nat):Int):=by omega
  have WY:(mx:Int)/536870912=((mx/536870912:Nat):Int):=by omega
  have ha:=uO mx 29 (by omega) (by omega)
  simp only[Nat.reducePow,Nat.reduceSub]at ha
  have Ms:=qK sg 31 (q*8388608) (by omega) (by omega);have SO:=qK (sg*2 ^ 8+q) 23 (mx/536870912) (by omega) (by omega);rw[show(sg*2 ^ 8+q)*2 ^ 23=sg*2 ^ 31+q*8388608 by omega]at SO;go_ret2
  refine⟨⟨sg*2147483648+q*8388608+mx/536870912, ?_, ?_⟩,rfl⟩
  ·show Ending.returned (Value.tuple #[Value.int .u64 _,Value.bool _])=_
   rw[KS.out,E.out,if_neg h3,if_pos h4,J0,WY,Ms,SO];have Sm:bits .and .u64 (mx:Int) 536870911=((mx%536870912:Nat):Int):=ha;rw[Sm]
   by_cases h:mx%536870912=0
   ·rw[if_pos h,h];rfl
   rw[if_neg h];have:(((mx%536870912:Nat):Int)==0)=false:=by rw[beq_eq_false_iff_ne];omega
   rw[this];rfl
  exact je1
 ·have h5:52<30+(1023-ex-127):=by omega
  have h3:¬ 1023+255≤ex+127:=by omega
  have h4:¬ 1023<ex+127:=by omega
  exact jci
 have h3:¬ 1023+255≤ex+127:=by omega
 have h4:¬ 1023<ex+127:=by omega
 have h5:¬ 52<30+(1023-ex-127):=by omega
 obtain⟨sh,YQ⟩:∃ sh,30+(1023-ex-127)=sh:=⟨_,rfl⟩
 have Fl:(30-((ex:Int)-1023+127)).toNat=sh:=by omega
 obtain⟨full,ti⟩:∃ full,mx+4503599627370496=full:=⟨_,rfl⟩
 have Ix:bits .or .u64 (mx:Int) 4503599627370496=(full:Int):=by
  have:=Qv mx 52 (by omega) (by omega)
  exact jcQ
 have hw:=jhw
 have Ij:(full:Int)/2 ^ sh=((full/2 ^ sh:Nat):Int):=by
  exact jdi
 have z9:full/2 ^ sh<2 ^ 31:=by
  apply Nat.div_lt_of_lt_mul
  have:2 ^ 30≤2 ^ sh:=Nat.pow_le_pow_right (by omega) (by omega);have h2:2 ^ 30*2 ^ 31≤2 ^ sh*2 ^ 31:=Nat.mul_le_mul_right _ this
  exact jcR
 have ho:=qK sg 31 (full/2 ^ sh) z9 (by simp only[Nat.reducePow]at z9⊢;omega);have ha:=uO full sh (by omega) (by omega);go_ret2
 refine⟨⟨sg*2147483648+full/2 ^ sh, ?_, ?_⟩,rfl⟩
 ·exact jbx
 exact jeR
theorem dj (n:Nat) (hn:n<18446744073709551616) (w:World) :
  Calls Tryz.prog 121 #[.int .u64 (n:Int)] w fun e w'=>∃ r,e=.returned r∧Fresh w (yw n) r w':=by
 have I:=Hh (di n hn w);have N1:=Hh (bJ n hn w);have N2:=Hh (bK n hn w);have HN:=Hh hn;clear hn
 cases hN:isNaN n with
 | true =>
  rw[hN]at I;have E:Hid (yw n=[u8 249,u8 126,u8 0]):=by rw[Hid,yw,if_pos hN]
  clear hN;go_enter Tryz.func121,Tryz.ntmps121
  go_wp2_with fail
  refine I.out.mono ?_
  rintro e w' ⟨rfl,rfl⟩
  exact jcU
 | false =>
 rw[hN]at I
 cases h1:ye n 5 10 with
 | some v =>
  have E:Hid (yw n=[u8 249,u8 (v/256),u8 v]):=by rw[Hid,yw,if_neg (by simp[hN]),h1]
  rw[h1]at N1;clear hN h1;go_enter Tryz.func121,Tryz.ntmps121
  go_wp2_with fail
  refine I.out.mono ?_
  rintro e w' ⟨rfl,rfl⟩
  go_wp2_with fail
  refine N1.out.mono ?_
  rintro e w' ⟨⟨v',rfl,hv⟩,rfl⟩
  obtain rfl:=hv v rfl;clear hv;go_wp2_with fail
  go_ret
  refine⟨_,rfl, ?_⟩
  rw[E.out]
  refine Fresh.lit w _ _ 3 rfl (by simp) ?_
  exact jcb
 | none =>
 rw[h1]at N1
 cases h2:ye n 8 23 with
 | some v =>
  have E:Hid (yw n=[u8 250,u8 (v/16777216),u8 (v/65536),u8 (v/256),u8 v]):=by rw[Hid,yw,if_neg (by simp[hN]),h1,h2]
  rw[h2]at N2;clear hN h1 h2;go_enter Tryz.func121,Tryz.ntmps121
  go_wp2_with fail
  refine I.out.mono ?_
  rintro e w' ⟨rfl,rfl⟩
  go_wp2_with fail
  refine N1.out.mono ?_
  rintro e w' ⟨⟨v',rfl,_⟩,rfl⟩
  go_wp2_with fail
  refine N2.out.mono ?_
  rintro e w' ⟨⟨v'',rfl,hv⟩,rfl⟩
  obtain rfl:=hv v rfl;clear hv;go_wp2_with fail
  go_ret
  refine⟨_,rfl, ?_⟩
  rw[E.out]
  refine Fresh.lit w _ _ 5 rfl (by simp) ?_
  exact jcb
 | none =>
 have E:Hid (yw n=u8 251::tk n 8 8):=by
  rw[Hid,yw,if_neg (by simp[hN]),h1,h2]
  simp[tk,be8,List.range_succ]
 rw[h2]at N2;clear hN h1 h2;have hO:OwnB (w.alloc (.cells #[.int .u8 251] 5)) w.heap.size (.slice (some ⟨w.heap.size,0,none⟩) 1 1) [u8 251]:=OwnB.lit w _ _ _ 1 rfl rfl (Nat.le_refl _) (by simp);have zD:=zX w (.cells #[.int .u8 251] 5);go_enter Tryz.func121,Tryz.ntmps121
 go_wp2_with fail
 refine I.out.mono ?_
 rintro e w' ⟨rfl,rfl⟩
 go_wp2_with fail
 refine N1.out.mono ?_
 rintro e w' ⟨⟨v',rfl,_⟩,rfl⟩
 go_wp2_with fail
 refine N2.out.mono ?_
 rintro e w' ⟨⟨v'',rfl,_⟩,rfl⟩
 go_wp2_with fail
 go_loopw [7,8] (fun v7 v8 wr=>∃ (j:Nat) (VA:Option Addr) (vc:Nat),j≤8∧v8=.int .i64 (7-(j:Int))∧v7=.slice VA (1+j) vc∧OwnB wr w.heap.size (.slice VA (1+j) vc) (u8 251::tk n 8 j)∧Below w.heap.size w wr) (fun _ v8 _=>(intOf v8+1).toNat)
 case atStart=>exact⟨0,_,_,by omega,by go_num,rfl,hO,zD⟩
 case round =>
 obtain⟨j,VA,vc,hj,rfl,rfl,xe,xW⟩:=hrel
 by_cases z9:j<8
 ·have iK:(0:Int)≤7-(j:Int):=by omega
  have y7:(#[.int .u8 ((n:Int)/2 ^ (8*(7-j))%256)]:Array Value).toList=[mZ n 8 j].map zu:=by
   simp only[List.map_cons,List.map_nil,mZ,yC]
   rw[show 8-1-j=7-j by omega]
   simp
  have yR:=xW.alloc xW.size (.cells #[.int .u8 ((n:Int)/2 ^ (8*(7-j))%256)] 5);have tR:=xe.alloc (.cells #[.int .u8 ((n:Int)/2 ^ (8*(7-j))%256)] 5);have HC:=Hh y7;clear y7;go_wp2_with (at_builtin;refine zh ?_)
  refine zv rfl (.tmp 47) (.tmp 54) rfl w.heap.size _ _ rfl tR _ 1 _ [mZ n 8 j] rfl rfl (Src.new _ _ _ _ rfl _ HC.out) (by simp[nN];omega) yR.size fun v' w7 xj xQ hat7=>?_
  have JY:(u8 251::tk n 8 j)++[mZ n 8 j]=u8 251::tk n 8 (j+1):=by rw[g8];rfl
  obtain⟨VA',vc',rfl,_⟩:=xj.form;have kW:((u8 251::tk n 8 j)++[mZ n 8 j]).length=1+(j+1):=by simp[nN];omega
  rw[kW]at xj;rw[kW];rw[JY]at xj;have uI:=jgJ;clear JY kW xQ hat7 tR xe yR xW;go_wp2_with fail
  go_roundw
  case rel=>exact⟨j+1,VA',vc',by omega,by rw[show((j+1:Nat):Int)=(j:Int)+1 by omega,show(7:Int)-((j:Int)+1)=7-j-1 by omega],rfl,xj,uI⟩
  case measure=>simp[intOf];omega
 have E9:j=8:=by omega
 subst E9;go_wp2_with fail
 go_ret
 rw[E.out]
 exact⟨_,rfl,xe,xW⟩
theorem ItemA.eqs_ {H:Snap}{k n:Int}{ba:Option Addr}{bl bc:Nat}{ia:Option Addr}{il ic:Nat}{x:Itm}(h:ItemA H k n ba bl bc ia il ic x):k=x.kind∧n=(x.n:Int)∧bl=x.bytes.length∧il=x.items.length∧IsItem H ba bc ia ic x:=⟨h.1,h.2,h.3,h.4,h.5⟩
theorem Fresh.step {w w1 w2:World}{l:List UInt8}{r:Value}(hb:Below w.heap.size w w1) (h:Fresh w1 l r w2):Fresh w l r w2:=⟨h.own.more hb.size,hb.trans (h.2.mono hb.size)⟩
theorem Fresh.litAt (w:World) (l:List UInt8) (cs:Array Value) (k b:Nat) (hb:b=w.heap.size) (hk:k=l.length) (hm:l.length≤4096) (hc:cs.toList=l.map zu) :
  Fresh w l (.slice (some ⟨b,0,none⟩) k k) (w.alloc (.cells cs 5)):=by
 subst hb
 exact Fresh.lit w l cs k hk hm hc
def iP (x:Itm):Prop:=∀ (H:Snap) (k n:Int) (ba:Option Addr) (bl bc:Nat) (ia:Option Addr) (il ic:Nat) (w:World) (lv:Nat),
 Good x lv→(xB x).length≤1099511627776→ItemA H k n ba bl bc ia il ic x→Holds w H→
 Calls Tryz.prog 86 #[.agg #[.int .i64 k,.int .u64 n,.slice ba bl bc,.slice ia il ic]] w fun e w'=>∃ r,e=.returned r∧Fresh w (xB x) r w'
theorem NE {x:Itm}{lv:Nat}(h:Good x lv) (hk:x.kind=0∨x.kind=1):xB x=zV x.kind.toNat x.n:=by
 have ho:=h.node
 rcases uJ ho with ⟨h1,h2⟩ | ⟨h1,_⟩
 ·have hi:=(qG h1 h2).1;have hb:x.bytes=[]:=by simp[tY,hk]at h2;exact h2.1
  have hn:sf x=x.n:=by unfold sf;rcases hk with h | h <;> simp[h]
  rw[um,if_neg (by omega),if_neg (by omega),hi,hb,ut,hn]
  simp
 exact jdo
theorem Ve {x:Itm}{lv:Nat}(h:Good x lv) (hk:x.kind=2∨x.kind=3):xB x=zV x.kind.toNat x.bytes.length++x.bytes:=by
 have ho:=h.node
 rcases uJ ho with ⟨h1,h2⟩ | ⟨h1,_⟩
 ·have hi:=(qG h1 h2).1;have hn:sf x=x.bytes.length:=by unfold sf;rw[if_pos hk]
  rw[um,if_neg (by omega),if_neg (by omega),hi,ut,hn]
  simp
 exact jdo
theorem Pp {x:Itm}{lv:Nat}(h:Good x lv) (hk:4≤x.kind∧x.kind≤6):xB x=zV x.kind.toNat (sf x)++ut x.items:=by
 have ho:=h.node
 rcases uJ ho with ⟨h1,_⟩ | ⟨_,h1⟩
 ·rw[vN]at h1;omega
 have hb:=(ol h1).2.2.2.1;rw[List.length_eq_zero_iff]at hb;rw[um,if_neg (by omega),if_neg (by omega),hb]
 simp
theorem Ws {x:Itm}{lv:Nat}(h:Good x lv) (hk:x.kind=7):xB x=if x.n<24 then [u8 (224+x.n)] else [u8 248,u8 x.n]:=by
 have ho:=h.node
 rcases uJ ho with ⟨h1,h2⟩ | ⟨h1,_⟩
 ·have hi:=qG h1 h2;have hn:sf x=x.n:=by unfold sf;simp[hk]
  by_cases qo:x.n<24
  ·rw[if_pos qo,um,if_neg (by omega),if_neg (by omega),hi.1,hi.2 (by omega),ut,hn,zV,if_pos qo,hk];rfl
  rw[if_neg qo,um,if_neg (by omega),if_pos ⟨hk,by omega⟩]
 exact jdo
theorem Jz {k:Int}(h:k=0):(k==0)=true∧(k==1)=false∧(k==2)=false∧(k==3)=false∧(k==4)=false∧(k==5)=false∧(k==6)=false∧(k==7)=false∧(k==8)=false:=by
 exact jdG
theorem KD {k:Int}(h:k=1):(k==0)=false∧(k==1)=true∧(k==2)=false∧(k==3)=false∧(k==4)=false∧(k==5)=false∧(k==6)=false∧(k==7)=false∧(k==8)=false:=by
 exact jdG
theorem KE {k:Int}(h:k=2):(k==0)=false∧(k==1)=false∧(k==2)=true∧(k==3)=false∧(k==4)=false∧(k==5)=false∧(k==6)=false∧(k==7)=false∧(k==8)=false:=by
 exact jdG
theorem KG {k:Int}(h:k=3):(k==0)=false∧(k==1)=false∧(k==2)=false∧(k==3)=true∧(k==4)=false∧(k==5)=false∧(k==6)=false∧(k==7)=false∧(k==8)=false:=by
 exact jdG
theorem KH {k:Int}(h:k=4):(k==0)=false∧(k==1)=false∧(k==2)=false∧(k==3)=false∧(k==4)=true∧(k==5)=false∧(k==6)=false∧(k==7)=false∧(k==8)=false:=by
 exact jdG
theorem KJ {k:Int}(h:k=5):(k==0)=false∧(k==1)=false∧(k==2)=false∧(k==3)=false∧(k==4)=false∧(k==5)=true∧(k==6)=false∧(k==7)=false∧(k==8)=false:=by
 exact jdG
theorem KO {k:Int}(h:k=6):(k==0)=false∧(k==1)=false∧(k==2)=false∧(k==3)=false∧(k==4)=false∧(k==5)=false∧(k==6)=true∧(k==7)=false∧(k==8)=false:=by
 exact jdG
theorem KQ {k:Int}(h:k=7):(k==0)=false∧(k==1)=false∧(k==2)=false∧(k==3)=false∧(k==4)=false∧(k==5)=false∧(k==6)=false∧(k==7)=true∧(k==8)=false:=by
 exact jdG
theorem KR {k:Int}(h:k=8):(k==0)=false∧(k==1)=false∧(k==2)=false∧(k==3)=false∧(k==4)=false∧(k==5)=false∧(k==6)=false∧(k==7)=false∧(k==8)=true:=by
 exact jdG
section
variable (x:Itm) {H:Snap} {ba:Option Addr} {bc:Nat} {ia:Option Addr} {ic:Nat} (w:World) (lv:Nat)
theorem NV (hk:x.kind=0∨x.kind=1) (hg:Good x lv) (hx:IsItem H ba bc ia ic x) :
  Calls Tryz.prog 86 #[rG x ba bc ia ic] w fun e w'=>∃ r,e=.returned r∧Fresh w (xB x) r w':=by
 have E:Hid (xB x=zV x.kind.toNat x.n):=NE hg hk;have h0:0≤x.kind:=by omega
 have h8:x.kind<8:=by omega
 have HN:=Hh hx.bounds.2.2.1;have D:=Hh (te x.kind (x.n:Int) (w.alloc (sG x ba bc ia ic)) h0 h8 (by omega) (by have:=HN.out;omega));have yB:=zX w (sG x ba bc ia ic);rw[Int.toNat_natCast]at D;clear hx hg h0 h8
 rcases hk with hk | hk
 ·obtain⟨b0,b1,b2,b3,b4,b5,b6,b7,b8⟩:=Jz hk;clear hk;exact jbk
 obtain⟨b0,b1,b2,b3,b4,b5,b6,b7,b8⟩:=KD hk;clear hk;exact jbk
theorem XJ (hk:x.kind=7) (hg:Good x lv) (hx:IsItem H ba bc ia ic x) :
  Calls Tryz.prog 86 #[rG x ba bc ia ic] w fun e w'=>∃ r,e=.returned r∧Fresh w (xB x) r w':=by
 have E0:=Ws hg hk;have HN:=Hh hx.bounds.2.2.1;have yB:=zX w (sG x ba bc ia ic);obtain⟨b0,b1,b2,b3,b4,b5,b6,b7,b8⟩:=KQ hk;clear hx hg hk
 by_cases qo:x.n<24
 ·rw[if_pos qo]at E0;have E:=Hh E0;have hi:(x.n:Int)<24:=by omega
  clear E0;go_enter Tryz.func86,Tryz.ntmps86
  go_wp2_with fail
  go_ret
  refine⟨_,rfl, ?_⟩
  rw[E.out]
  refine(Fresh.litAt (w.alloc (sG x ba bc ia ic)) [u8 (224+x.n)] _ 1 _ (by simp) rfl (by simp) ?_).step yB
  simp only[List.map_cons,List.map_nil,yC]
  congr 2
  omega
 rw[if_neg qo]at E0;have E:=Hh E0;have hi:¬ (x.n:Int)<24:=by omega
 clear E0;go_enter Tryz.func86,Tryz.ntmps86
 go_wp2_with fail
 go_ret
 refine⟨_,rfl, ?_⟩
 rw[E.out]
 refine(Fresh.litAt (w.alloc (sG x ba bc ia ic)) [u8 248,u8 x.n] _ 2 _ (by simp) rfl (by simp) ?_).step yB
 exact jcb
theorem U3 (hk:x.kind=8) (hx:IsItem H ba bc ia ic x) :
  Calls Tryz.prog 86 #[rG x ba bc ia ic] w fun e w'=>∃ r,e=.returned r∧Fresh w (xB x) r w':=by
 have E:Hid (xB x=yw x.n):=by rw[Hid,um,if_pos hk]
 have D:=Hh (dj x.n hx.bounds.2.2.1 (w.alloc (sG x ba bc ia ic)));have yB:=zX w (sG x ba bc ia ic);obtain⟨b0,b1,b2,b3,b4,b5,b6,b7,b8⟩:=KR hk;clear hx hk;exact jbk
theorem NX (hk:x.kind=2∨x.kind=3) (hg:Good x lv) (hl:(xB x).length≤1099511627776) (hx:IsItem H ba bc ia ic x) (hH:Holds w H) :
  Calls Tryz.prog 86 #[rG x ba bc ia ic] w fun e w'=>∃ r,e=.returned r∧Fresh w (xB x) r w':=by
 have e0:=Ve hg hk;rw[e0,List.length_append]at hl;have E:=Hh e0;have h0:0≤x.kind:=by omega
 have h8:x.kind<8:=by omega
 have EG:x.bytes.length≤9223372036854775807:=by have:=hx.bounds;omega
 have B3:x.bytes.length<18446744073709551616:=by omega
 have HL:=Hh B3;have KW:IntKind.u64.wrap (x.bytes.length:Int)=(x.bytes.length:Int):=IntWalk.u64_in _ (by omega);have D:=fun w1:World=>te x.kind (x.bytes.length:Int) w1 h0 h8 (by omega) (by have:=HL.out;omega)
 have yB:=(zX w (sG x ba bc ia ic)).drew;have hB:=jhh;have hB:=hB.drew;have hs:Src (w.alloc (sG x ba bc ia ic)).drew _ _:=(Src.of_row hx.bytes.row hH).alloc (sG x ba bc ia ic)
 simp only[Int.toNat_natCast]at D
 have DD:=Hh D;clear hg h0 h8 e0 hx D B3
 rcases hk with hk | hk
 ·obtain⟨b0,b1,b2,b3,b4,b5,b6,b7,b8⟩:=KE hk;exact jar
 obtain⟨b0,b1,b2,b3,b4,b5,b6,b7,b8⟩:=KG hk;exact jar
end
end Go.Proofs.YtkmlnjociijpgaaGreatDoor
