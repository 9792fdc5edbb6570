/- squeezed. Walks: the references' Raw. The tw -/
import Derived.Test.YtgaoknihklmakabGreatDoorK01
import Derived.Laws.FloatArith
set_option linter.unusedVariables false
set_option linter.unusedSimpArgs false
set_option maxRecDepth 100000
set_option maxHeartbeats 3200000
namespace Go.Proofs.YtgaoknihklmakabGreatDoor
open Go.RowKit
theorem jar{P:Prop}(h:P:=by
 clear hk;go_enter Tryz.func58,Tryz.ntmps58
 go_upto_region 9 with fail
 refine zj 10 (fun w'=>w'.cell? ⟨w.heap.size,0,none⟩=some (.int .i64 x.kind)∧w'.cell? ⟨w.heap.size,2,none⟩=some (.slice ba x.bytes.length bc)) (by kernel_rfl) (⟨hB.cell 0 rfl,hB.cell 2 rfl⟩) (fun zy=>?_)
 refine Tk 0 rfl zy ?_
 refine Tk 1 rfl zy ?_
 refine Tk 2 rfl zy ?_
 refine Tk 3 rfl zy ?_
 refine Tk 4 rfl zy ?_
 refine Tk 5 rfl zy ?_
 refine Tk 7 rfl zy ?_
 refine Tk 8 rfl zy ?_
 refine To 6 rfl fun K hK=>?_
 go_simp
 refine(DD.out _).mono ?_
 rintro e w1 ⟨r,rfl,hf⟩
 have y8:=hB.below hf.2;have wu:=hs.below hf.2;have xR:=uo.trans (hf.2.mono uo.size);have hz:=hf.2.size;obtain⟨RA,rc,rfl,_⟩:=hf.own.form
 refine Ko hK ?_ fun zy=>?_
 ·exact⟨y8.cell 0 rfl,y8.cell 2 rfl⟩
 clear hK K
 refine To 9 rfl fun K hK=>?_
 rw[if_pos (by rfl)]
 refine vk (.tmp 28) (.tmp 30) rfl w.heap.size _ _ rfl (hf.own.more uo.size) _ x.bytes.length _ x.bytes rfl rfl wu (by omega) xR.size fun v' w2 e7 xB _=>?_
 have yT:=y8.grown xB (fun h=>by have:=(hf.own.lt _ h).1;simp at this;omega);have zC:=xR.grown xB xR.size (fun q hq=>Nat.le_trans uo.size (hf.own.lt q hq).1)
 refine Ko hK ?_ fun zy=>?_
 ·exact⟨yT.cell 0 rfl,yT.cell 2 rfl⟩
 clear hK K
 refine To 10 rfl fun K hK=>?_
 go_simp
 refine Kz hK ?_
 clear hK K
 refine Wd ?_
 go_wp2_with fail
 go_ret
 exact⟨_,rfl,by rw[E.out];exact⟨e7,zC⟩⟩):P:=h
theorem jbl{P:Prop}(h:P:=by
 go_enter Tryz.func58,Tryz.ntmps58
 go_wp2_with fail
 refine D.out.mono ?_
 rintro e w1 ⟨r,rfl,hf⟩
 go_wp2_with fail
 go_ret
 exact⟨_,rfl,by rw[E.out];exact hf.step uo⟩):P:=h
theorem jbC{P:Prop}(h:P:=by rw[← Nat.pow_add,show t+1+(52-t)=53 by omega]):P:=h
theorem jbF{P:Prop}(h:P:=by
 generalize f.log2=t at a1 a2 a3
 have b:=pS a1 a2 (by omega);obtain⟨full,uS⟩:∃ full,f*2 ^ (52-t)=full:=⟨_,rfl⟩
 rw[uS]at b⊢
 exact⟨⟨wu,WP,by omega,ph,.inr (.inr (.inr ⟨h2,t,full,a3,a1,a2,uS.symm,b.1,rfl⟩))⟩,by omega⟩):P:=h
theorem jbV{P:Prop}(h:P:=by
 simp only[Itm.n]at h a4
 rw[e]at h
 rcases a4 with ⟨a4,a5⟩ | ⟨a4,a5⟩ <;> rw[a5]at h <;> simp only[List.cons_append,List.nil_append]at h <;> injection h with h1 _ <;> have:=vE h1 <;> omega):P:=h
theorem jb2{P:Prop}(h:P:=by
 rcases Nat.lt_trichotomy t t' with h | h | h
 ·have:2 ^ (t+1)≤2 ^ t':=Nat.pow_le_pow_right (by omega) h
  omega
 ·exact h
 have:2 ^ (t'+1)≤2 ^ t:=Nat.pow_le_pow_right (by omega) h
 omega):P:=h
theorem jcG{P:Prop}(h:P:=by rw[← Nat.pow_add,show t+(52-t)=52 by omega]):P:=h
theorem jcI{P:Prop}(h:P:=by
 simp at h
 repeat' split at h
 all_goals omega):P:=h
theorem jcJ{P:Prop}(h:P:=by
 have h0:f=0:=by omega
 subst h0;rw[if_pos h1]
 exact⟨⟨wu,WP,by omega,ph,.inl ⟨h1,rfl,by omega⟩⟩,by omega⟩):P:=h
theorem jcO{P:Prop}(h:P:=by rw[if_neg (by omega),if_neg (by omega),if_neg (by omega),if_pos (by omega),if_pos (by omega)];congr 1;omega):P:=h
theorem jcR{P:Prop}(h:P:=by exact tA (s:=s) (e:=0) (m:=0) (by rw[h3,Nat.zero_mul,Nat.add_zero]) a1 (by omega) (by omega) (fun _=>rfl)):P:=h
theorem jcT{P:Prop}(h:P:=by
 rw[if_neg h2]
 exact⟨⟨wu,WP,by omega,ph,.inr (.inr (.inl ⟨by omega,by omega,rfl⟩))⟩,by omega⟩):P:=h
theorem jc3{P:Prop}(h:P:=by
 simp[zH,Itm.kind,Itm.bytes,Itm.items]at ox oy rj
 subst ox oy rj
 exact⟨rfl,by simpa using hz⟩):P:=h
theorem jdl{P:Prop}(h:P:=by
 rw[if_pos h0]
 exact⟨⟨wu,WP,by omega,ph,.inr (.inl ⟨h2,h0,rfl⟩)⟩,by omega⟩):P:=h
theorem jdp{P:Prop}(h:P:=by exact tA (s:=s) (e:=2047) (m:=0) (by rw[h3]) a1 (by omega) (by omega) (fun _=>rfl)):P:=h
theorem jdx{P:Prop}(h:P:=by
 unfold Ieee.Format.word
 rcases(by omega:s=0∨s=1) with rfl | rfl <;> simp[e]):P:=h
theorem jdK{P:Prop}(h:P:=by rw[(zP x).2 (by omega)]at h1;cases h1):P:=h
theorem jdQ{P:Prop}(h:P:=by
 cases h:yz f 5 10 with
 | none=>rfl
 | some v=>rw[h]at h2;simp at h2):P:=h
theorem jdW{P:Prop}(h:P:=by
 rw[if_pos (by omega),if_neg h1,if_neg h0];congr 1
 ·omega
 omega):P:=h
theorem jdZ{P:Prop}(h:P:=by rw[← hf,Nat.div_mul_cancel (Nat.dvd_of_mod_eq_zero c6)]):P:=h
theorem jd0{P:Prop}(h:P:=by rw[if_pos (by omega),if_neg (by omega),if_pos h0,h0];simp):P:=h
theorem jd4{P:Prop}(h:P:=by subst h;decide):P:=h
theorem jfA{P:Prop}(h:P:=by have hB:=Blk.new w 83 #[.int .i64 x.kind,.int .u64 x.n,.slice ba x.bytes.length bc,.slice ia x.items.length ic];exact hB):P:=h
theorem jfW{P:Prop}(h:P:=by have e2:Ieee.double.binade=4503599627370496:=rfl;have e3:Ieee.double.infRung=9218868437227405312:=rfl;have e4:Ieee.double.leastPlace = -1074:=rfl;exact And.intro e2 (And.intro e3 e4)):P:=h
theorem jgE{P:Prop}(h:P:=by have e1:Ieee.single.signWeight=2147483648:=rfl;have e2:Ieee.single.binade=8388608:=rfl;have e3:Ieee.single.infRung=2139095040:=rfl;exact And.intro e1 (And.intro e2 e3)):P:=h
theorem jhv{P:Prop}(h:P:=by have a1:2 ^ f.log2≤f:=Nat.log2_self_le h0;have a2:f<2 ^ (f.log2+1):=Nat.lt_log2_self;exact And.intro a1 a2):P:=h
theorem jhK{P:Prop}(h:P:=by have e1:Ieee.double.signWeight=9223372036854775808:=rfl;exact e1):P:=h
theorem ItemA.eqs_ {H:Snap}{k n:Int}{ba:Option Addr}{bl bc:Nat}{ia:Option Addr}{il ic:Nat}{x:Itm}(h:ItemA H k n ba bl bc ia il ic x):k=x.kind∧n=(x.n:Int)∧bl=x.bytes.length∧il=x.items.length∧IsItem H ba bc ia ic x:=⟨h.1,h.2,h.3,h.4,h.5⟩
theorem Fresh.step {w w1 w2:World}{l:List UInt8}{r:Value}(hb:Below w.heap.size w w1) (h:Fresh w1 l r w2):Fresh w l r w2:=⟨h.own.more hb.size,hb.trans (h.2.mono hb.size)⟩
theorem Fresh.litAt (w:World) (l:List UInt8) (cs:Array Value) (k b:Nat) (hb:b=w.heap.size) (hk:k=l.length) (hm:l.length≤4096) (hc:cs.toList=l.map zT) :
  Fresh w l (.slice (some ⟨b,0,none⟩) k k) (w.alloc (.cells cs 5)):=by
 subst hb
 exact Fresh.lit w l cs k hk hm hc
def iE (x:Itm):Prop:=∀ (H:Snap) (k n:Int) (ba:Option Addr) (bl bc:Nat) (ia:Option Addr) (il ic:Nat) (w:World) (lv:Nat),
 Good x lv→(zf x).length≤1099511627776→ItemA H k n ba bl bc ia il ic x→Holds w H→
 Calls Tryz.prog 58 #[.agg #[.int .i64 k,.int .u64 n,.slice ba bl bc,.slice ia il ic]] w fun e w'=>∃ r,e=.returned r∧Fresh w (zf x) r w'
theorem Wa {x:Itm}{lv:Nat}(h:Good x lv) (hk:x.kind=0∨x.kind=1):zf x=zF x.kind.toNat x.n:=by
 have ho:=h.node
 rcases xV ho with ⟨h1,h2⟩ | ⟨h1,_⟩
 ·have hi:=(yK h1 h2).1;have hb:x.bytes=[]:=by simp[zH,hk]at h2;exact h2.1
  have hn:numP x=x.n:=by unfold numP;rcases hk with h | h <;> simp[h]
  rw[xu,if_neg (by omega),if_neg (by omega),hi,hb,zG,hn]
  simp
 exact jdK
theorem QE {x:Itm}{lv:Nat}(h:Good x lv) (hk:x.kind=2∨x.kind=3):zf x=zF x.kind.toNat x.bytes.length++x.bytes:=by
 have ho:=h.node
 rcases xV ho with ⟨h1,h2⟩ | ⟨h1,_⟩
 ·have hi:=(yK h1 h2).1;have hn:numP x=x.bytes.length:=by unfold numP;rw[if_pos hk]
  rw[xu,if_neg (by omega),if_neg (by omega),hi,zG,hn]
  simp
 exact jdK
theorem SR {x:Itm}{lv:Nat}(h:Good x lv) (hk:4≤x.kind∧x.kind≤6):zf x=zF x.kind.toNat (numP x)++zG x.items:=by
 have ho:=h.node
 rcases xV ho with ⟨h1,_⟩ | ⟨_,h1⟩
 ·rw[zP]at h1;omega
 have hb:=(xH h1).2.2.2.1;rw[List.length_eq_zero_iff]at hb;rw[xu,if_neg (by omega),if_neg (by omega),hb]
 simp
theorem Xb {x:Itm}{lv:Nat}(h:Good x lv) (hk:x.kind=7):zf x=if x.n<24 then [u8 (224+x.n)] else [u8 248,u8 x.n]:=by
 have ho:=h.node
 rcases xV ho with ⟨h1,h2⟩ | ⟨h1,_⟩
 ·have hi:=yK h1 h2;have hn:numP x=x.n:=by unfold numP;simp[hk]
  by_cases tZ:x.n<24
  ·rw[if_pos tZ,xu,if_neg (by omega),if_neg (by omega),hi.1,hi.2 (by omega),zG,hn,zF,if_pos tZ,hk];rfl
  rw[if_neg tZ,xu,if_neg (by omega),if_pos ⟨hk,by omega⟩]
 exact jdK
theorem TI {k:Int}(h:k=0):(k==0)=true∧(k==1)=false∧(k==2)=false∧(k==3)=false∧(k==4)=false∧(k==5)=false∧(k==6)=false∧(k==7)=false∧(k==8)=false:=by
 exact jd4
theorem TJ {k:Int}(h:k=1):(k==0)=false∧(k==1)=true∧(k==2)=false∧(k==3)=false∧(k==4)=false∧(k==5)=false∧(k==6)=false∧(k==7)=false∧(k==8)=false:=by
 exact jd4
theorem TK {k:Int}(h:k=2):(k==0)=false∧(k==1)=false∧(k==2)=true∧(k==3)=false∧(k==4)=false∧(k==5)=false∧(k==6)=false∧(k==7)=false∧(k==8)=false:=by
 exact jd4
theorem TL {k:Int}(h:k=3):(k==0)=false∧(k==1)=false∧(k==2)=false∧(k==3)=true∧(k==4)=false∧(k==5)=false∧(k==6)=false∧(k==7)=false∧(k==8)=false:=by
 exact jd4
theorem TM {k:Int}(h:k=4):(k==0)=false∧(k==1)=false∧(k==2)=false∧(k==3)=false∧(k==4)=true∧(k==5)=false∧(k==6)=false∧(k==7)=false∧(k==8)=false:=by
 exact jd4
theorem TN {k:Int}(h:k=5):(k==0)=false∧(k==1)=false∧(k==2)=false∧(k==3)=false∧(k==4)=false∧(k==5)=true∧(k==6)=false∧(k==7)=false∧(k==8)=false:=by
 exact jd4
theorem TO {k:Int}(h:k=6):(k==0)=false∧(k==1)=false∧(k==2)=false∧(k==3)=false∧(k==4)=false∧(k==5)=false∧(k==6)=true∧(k==7)=false∧(k==8)=false:=by
 exact jd4
theorem TP {k:Int}(h:k=7):(k==0)=false∧(k==1)=false∧(k==2)=false∧(k==3)=false∧(k==4)=false∧(k==5)=false∧(k==6)=false∧(k==7)=true∧(k==8)=false:=by
 exact jd4
theorem TQ {k:Int}(h:k=8):(k==0)=false∧(k==1)=false∧(k==2)=false∧(k==3)=false∧(k==4)=false∧(k==5)=false∧(k==6)=false∧(k==7)=false∧(k==8)=true:=by
 exact jd4
section
variable (x:Itm) {H:Snap} {ba:Option Addr} {bc:Nat} {ia:Option Addr} {ic:Nat} (w:World) (lv:Nat)
theorem Qb (hk:x.kind=0∨x.kind=1) (hg:Good x lv) (hx:IsItem H ba bc ia ic x) :
  Calls Tryz.prog 58 #[xx x ba bc ia ic] w fun e w'=>∃ r,e=.returned r∧Fresh w (zf x) r w':=by
 have E:Hid (zf x=zF x.kind.toNat x.n):=Wa hg hk;have h0:0≤x.kind:=by omega
 have h8:x.kind<8:=by omega
 have HN:=Hh hx.bounds.2.2.1;have D:=Hh (pR x.kind (x.n:Int) (w.alloc (zU x ba bc ia ic)) h0 h8 (by omega) (by have:=HN.out;omega));have uo:=zm w (zU x ba bc ia ic);rw[Int.toNat_natCast]at D;clear hx hg h0 h8
 rcases hk with hk | hk
 ·obtain⟨b0,b1,b2,b3,b4,b5,b6,b7,b8⟩:=TI hk;clear hk;exact jbl
 obtain⟨b0,b1,b2,b3,b4,b5,b6,b7,b8⟩:=TJ hk;clear hk;exact jbl
theorem YC (hk:x.kind=7) (hg:Good x lv) (hx:IsItem H ba bc ia ic x) :
  Calls Tryz.prog 58 #[xx x ba bc ia ic] w fun e w'=>∃ r,e=.returned r∧Fresh w (zf x) r w':=by
 have E0:=Xb hg hk;have HN:=Hh hx.bounds.2.2.1;have uo:=zm w (zU x ba bc ia ic);obtain⟨b0,b1,b2,b3,b4,b5,b6,b7,b8⟩:=TP hk;clear hx hg hk
 by_cases tZ:x.n<24
 ·rw[if_pos tZ]at E0;have E:=Hh E0;have hi:(x.n:Int)<24:=by omega
  clear E0;go_enter Tryz.func58,Tryz.ntmps58
  go_wp2_with fail
  go_ret
  refine⟨_,rfl, ?_⟩
  rw[E.out]
  refine(Fresh.litAt (w.alloc (zU x ba bc ia ic)) [u8 (224+x.n)] _ 1 _ (by simp) rfl (by simp) ?_).step uo
  simp only[List.map_cons,List.map_nil,x8]
  congr 2
  omega
 rw[if_neg tZ]at E0;have E:=Hh E0;have hi:¬ (x.n:Int)<24:=by omega
 clear E0;go_enter Tryz.func58,Tryz.ntmps58
 go_wp2_with fail
 go_ret
 refine⟨_,rfl, ?_⟩
 rw[E.out]
 refine(Fresh.litAt (w.alloc (zU x ba bc ia ic)) [u8 248,u8 x.n] _ 2 _ (by simp) rfl (by simp) ?_).step uo
 exact jch
theorem Vk (hk:x.kind=8) (hx:IsItem H ba bc ia ic x) :
  Calls Tryz.prog 58 #[xx x ba bc ia ic] w fun e w'=>∃ r,e=.returned r∧Fresh w (zf x) r w':=by
 have E:Hid (zf x=zO x.n):=by rw[Hid,xu,if_pos hk]
 have D:=Hh (dq x.n hx.bounds.2.2.1 (w.alloc (zU x ba bc ia ic)));have uo:=zm w (zU x ba bc ia ic);obtain⟨b0,b1,b2,b3,b4,b5,b6,b7,b8⟩:=TQ hk;clear hx hk;exact jbl
theorem Qc (hk:x.kind=2∨x.kind=3) (hg:Good x lv) (hl:(zf x).length≤1099511627776) (hx:IsItem H ba bc ia ic x) (hH:Holds w H) :
  Calls Tryz.prog 58 #[xx x ba bc ia ic] w fun e w'=>∃ r,e=.returned r∧Fresh w (zf x) r w':=by
 have e0:=QE hg hk;rw[e0,List.length_append]at hl;have E:=Hh e0;have h0:0≤x.kind:=by omega
 have h8:x.kind<8:=by omega
 have AJ:x.bytes.length≤9223372036854775807:=by have:=hx.bounds;omega
 have MP:x.bytes.length<18446744073709551616:=by omega
 have HL:=Hh MP;have KW:IntKind.u64.wrap (x.bytes.length:Int)=(x.bytes.length:Int):=IntWalk.u64_in _ (by omega);have D:=fun w1:World=>pR x.kind (x.bytes.length:Int) w1 h0 h8 (by omega) (by have:=HL.out;omega)
 have uo:=(zm w (zU x ba bc ia ic)).drew;have hB:=jfA;have hB:=hB.drew;have hs:Src (w.alloc (zU x ba bc ia ic)).drew _ _:=(Src.of_row hx.bytes.row hH).alloc (zU x ba bc ia ic)
 simp only[Int.toNat_natCast]at D
 have DD:=Hh D;clear hg h0 h8 e0 hx D MP
 rcases hk with hk | hk
 ·obtain⟨b0,b1,b2,b3,b4,b5,b6,b7,b8⟩:=TK hk;exact jar
 obtain⟨b0,b1,b2,b3,b4,b5,b6,b7,b8⟩:=TL hk;exact jar
end
theorem uJ:∀ a:List UInt8,Lib.compareBytes a a=0
 | []=>by rw[Lib.compareBytes]
 | x::a=>by rw[Lib.compareBytes,if_neg (UInt8.lt_irrefl x),if_neg (UInt8.lt_irrefl x)];exact uJ a
theorem rG:∀ a b c:List UInt8,Lib.compareBytes a b<0→Lib.compareBytes b c<0→Lib.compareBytes a c<0
 | [],[],c,h,_=>by rw[Lib.compareBytes]at h;omega
 | [],y::b,[],_,h=>by rw[Lib.compareBytes]at h;omega
 | [],y::b,z::c,_,_=>by rw[Lib.compareBytes];omega
 | x::a,[],c,h,_=>by rw[Lib.compareBytes]at h;omega
 | x::a,y::b,[],_,h=>by rw[Lib.compareBytes]at h;omega
 | x::a,y::b,z::c,h,k=>by
  rw[Lib.compareBytes]at h k⊢
  by_cases h1:x<y
  ·by_cases h2:y<z
   ·have h3:x<z:=UInt8.lt_trans h1 h2;rw[if_pos h3];omega
   rw[if_neg h2]at k
   by_cases h3:z<y
   ·rw[if_pos h3]at k;omega
   have e:y=z:=UInt8.toNat_inj.1 (by rw[UInt8.lt_iff_toNat_lt]at h2 h3;omega);subst e;rw[if_pos h1];omega
  rw[if_neg h1]at h
  by_cases h2:y<x
  ·rw[if_pos h2]at h;omega
  rw[if_neg h2]at h;have e:x=y:=UInt8.toNat_inj.1 (by rw[UInt8.lt_iff_toNat_lt]at h1 h2;omega);subst e
  by_cases h3:x<z
  ·rw[if_pos h3];omega
  rw[if_neg h3]at k⊢
  by_cases h4:z<x
  ·rw[if_pos h4]at k;omega
  rw[if_neg h4]at k⊢
  exact rG a b c h k
def rv:List Itm→List (Itm×Itm)
 | a::b::r=>(a,b)::rv r
 | _=>[]
theorem jG:∀ {l:List Itm}{p:Itm×Itm},p∈rv l→p.1∈l∧p.2∈l
 | [],p,h=>by rw[rv]at h;cases h;intro _ _ _ h;cases h
 | [_],p,h=>by rw[rv]at h;cases h;intro _ _ _ h;cases h
 | a::b::r,p,h=>by
  rw[rv]at h
  rcases List.mem_cons.1 h with rfl | h
  ·simp
  have:=jG h
  simp[this.1,this.2]
theorem Ze:∀ l:List Itm,Tn l=(rv l).all fun p=>PZ p.1 p.2
 | []=>rfl
 | [_]=>rfl
 | a::b::r=>by rw[Tn,rv,List.all_cons,Ze r]
theorem jC (k:List UInt8):∀ l:List Itm,qL k l=((rv l).find? fun p=>decide (zf p.1=k)).map (·.2)
 | []=>rfl
 | [_]=>rfl
 | a::b::r=>by
  rw[qL,rv,List.find?_cons]
  by_cases h:zf a=k
  ·simp[h]
  simp[h,jC k r]
mutual
def tC:Itm→Itm→Bool
 | .mk k n bs l,.mk k' n' bs' l'=>k==k'&&n==n'&&bs==bs'&&tV l l'
def tV:List Itm→List Itm→Bool
 | [],[]=>true
 | x::l,y::m=>tC x y&&tV l m
 | _,_=>false
end
mutual
theorem vI:∀ (x y:Itm),tC x y=true↔x=y
 | .mk k n bs l,.mk k' n' bs' l'=>by
  rw[tC]
  simp only[Bool.and_eq_true,beq_iff_eq,jw l l',Itm.mk.injEq,and_assoc]
theorem jw:∀ (l m:List Itm),tV l m=true↔l=m
 | [],[]=>by simp[tV]
 | [],y::m=>by simp[tV]
 | x::l,[]=>by simp[tV]
 | x::l,y::m=>by
  rw[tV]
  simp only[Bool.and_eq_true,vI x y,jw l m,List.cons.injEq]
end
theorem gB (n:Nat):zr (n:Int)=.mk 0 n [] []:=by
 rw[zr,if_neg (by omega)];simp
theorem ST (n:Nat) (lv:Nat):Good (zr (n:Int)) lv:=by
 rw[gB,Good,GoodL]
 exact⟨rfl,trivial,fun h=>by omega⟩
theorem fp (n:Nat):zR (zr (n:Int))=true:=by
 rw[wj]
 refine⟨ST n 0, ?_, ?_⟩
 ·rw[gB,cnt,xM];omega
 rw[gB,xu];have:=(rd (0:Int).toNat (numP (.mk 0 n [] []))).2
 simp[Itm.kind,Itm.bytes,Itm.items,zG]at *
 omega
def oU (x:Itm):Nat:=if x.kind=8 then 7 else x.kind.toNat
theorem Xi (m n:Nat):∃ a t,zF m n=u8 (m*32+a)::t∧a<28:=by
 unfold zF
 repeat' split
 all_goals exact⟨_,_,rfl,by omega⟩
theorem nt (n:Nat):∃ a t,zO n=u8 (7*32+a)::t∧25≤a∧a<28:=by
 unfold zO
 repeat' split
 ·exact⟨25,_,rfl,by omega⟩
 ·exact⟨25,_,rfl,by omega⟩
 ·exact⟨26,_,rfl,by omega⟩
 exact⟨27,_,rfl,by omega⟩
theorem dU (x:Itm) (h:0≤x.kind∧x.kind≤8):∃ a t,zf x=u8 (oU x*32+a)::t∧a<28:=by
 rw[xu,oU]
 by_cases h8:x.kind=8
 ·obtain⟨a,t,e,h1,h2⟩:=nt x.n;rw[if_pos h8,if_pos h8]
  exact⟨a,t,e,h2⟩
 rw[if_neg h8,if_neg h8]
 by_cases h7:x.kind=7∧24≤x.n
 ·rw[if_pos h7,h7.1]
  exact⟨24,[u8 x.n],rfl,by omega⟩
 rw[if_neg h7];obtain⟨a,t,e,h2⟩:=Xi x.kind.toNat (numP x);rw[e]
 exact⟨a,_,by rw[List.cons_append,List.cons_append],h2⟩
theorem Nv {x y:Itm}(hx:0≤x.kind∧x.kind≤8) (hy:0≤y.kind∧y.kind≤8) {r s:List UInt8}(h:zf x++r=zf y++s):oU x=oU y:=by
 obtain⟨a,t,e,ha⟩:=dU x hx;obtain⟨b,v,f,hb⟩:=dU y hy;rw[e,f,List.cons_append,List.cons_append]at h;injection h with h _
 have h':=congrArg UInt8.toNat h;rw[re,re]at h';have h1:oU x≤7:=by unfold oU;split <;> omega
 have h2:oU y≤7:=by unfold oU;split <;> omega
 omega
theorem lE {a b c d:UInt8}{r s:List UInt8}(h:a::b::r=c::d::s):a=c∧b=d∧r=s:=by
 injection h with h1 h
 injection h with h2 h
 exact⟨h1,h2,h⟩
theorem vE {a b:Nat}(h:u8 a=u8 b):a%256=b%256:=by
 have:=congrArg UInt8.toNat h;rwa [re,re]at this
def sU (n:Nat):Nat:=if n<24 then n else if n<256 then 24 else if n<65536 then 25 else if n<4294967296 then 26 else 27
def qM (n:Nat):List UInt8:=if n<24 then [] else if n<256 then [u8 n] else if n<65536 then [u8 (n/256),u8 n] else if n<4294967296 then [u8 (n/16777216),u8 (n/65536),u8 (n/256),u8 n] else be8 n 8
theorem qq (m n:Nat):zF m n=u8 (m*32+sU n)::qM n:=by
 unfold zF sU qM
 repeat' split
 all_goals rfl
theorem aR (n:Nat):sU n<28:=by
 unfold sU
 repeat' split
 all_goals omega
theorem de (n:Nat):(qM n).length=if sU n<24 then 0 else if sU n=24 then 1 else if sU n=25 then 2 else if sU n=26 then 4 else 8:=by
 unfold sU qM
 by_cases h1:n<24
 ·simp[h1]
 by_cases h2:n<256
 ·simp[h1,h2]
 by_cases h3:n<65536
 ·simp[h1,h2,h3]
 by_cases h4:n<4294967296
 ·simp[h1,h2,h3,h4]
 simp[h1,h2,h3,h4,uv]
theorem TE {n m:Nat}(hn:n<18446744073709551616) (hm:m<18446744073709551616) (h:be8 n 8=be8 m 8):n=m:=by
 simp only[be8,List.nil_append,List.cons_append,List.cons.injEq]at h
 obtain⟨h0,h1,h2,h3,h4,h5,h6,h7,_⟩:=h;have h0:=vE h0;have h1:=vE h1;have h2:=vE h2;have h3:=vE h3;have h4:=vE h4;have h5:=vE h5;have h6:=vE h6;have h7:=vE h7
 simp only[Nat.reduceMul,Nat.reduceSub,Nat.reducePow,Nat.sub_zero,Nat.mul_zero]at *
 have g0:n/72057594037927936=m/72057594037927936:=by omega
 have g1:n/281474976710656=m/281474976710656:=by omega
 have g2:n/1099511627776=m/1099511627776:=by omega
 have g3:n/4294967296=m/4294967296:=by omega
 have g4:n/16777216=m/16777216:=by omega
 have g5:n/65536=m/65536:=by omega
 have g6:n/256=m/256:=by omega
 omega
theorem SW {n m:Nat}(hn:n<18446744073709551616) (hm:m<18446744073709551616) (hx:sU n=sU m) (h:qM n=qM m):n=m:=by
 unfold sU at hx
 unfold qM at h
 by_cases a1:n<24
 ·simp only[a1,if_true]at hx
  repeat' split at hx
  all_goals omega
 by_cases a2:n<256
 ·have b1:¬ m<24:=by intro k;simp only[a1,a2,k,if_true,if_false]at hx;omega
  have b2:m<256:=by
   simp only[a1,a2,b1,if_true,if_false]at hx
   repeat' split at hx
   all_goals omega
  simp only[a1,a2,b1,b2,if_true,if_false,List.cons.injEq,and_true]at h
  have:=vE h
  omega
 by_cases a3:n<65536
 ·have b1:¬ m<24:=by intro k;simp only[a1,a2,a3,k,if_true,if_false]at hx;omega
  have b2:¬ m<256:=by intro k;simp only[a1,a2,a3,b1,k,if_true,if_false]at hx;omega
  have b3:m<65536:=by
   simp only[a1,a2,a3,b1,b2,if_true,if_false]at hx
   repeat' split at hx
   all_goals omega
  simp only[a1,a2,a3,b1,b2,b3,if_true,if_false,List.cons.injEq,and_true]at h
  have h1:=vE h.1;have h2:=vE h.2
  omega
 by_cases a4:n<4294967296
 ·have b1:¬ m<24:=by intro k;simp only[a1,a2,a3,a4,k,if_true,if_false]at hx;omega
  have b2:¬ m<256:=by intro k;simp only[a1,a2,a3,a4,b1,k,if_true,if_false]at hx;omega
  have b3:¬ m<65536:=by intro k;simp only[a1,a2,a3,a4,b1,b2,k,if_true,if_false]at hx;omega
  have b4:m<4294967296:=by
   simp only[a1,a2,a3,a4,b1,b2,b3,if_true,if_false]at hx
   repeat' split at hx
   all_goals omega
  simp only[a1,a2,a3,a4,b1,b2,b3,b4,if_true,if_false,List.cons.injEq,and_true]at h
  obtain⟨h0,h1,h2,h3⟩:=h;have h0:=vE h0;have h1:=vE h1;have h2:=vE h2;have h3:=vE h3;have g0:n/16777216=m/16777216:=by omega
  have g1:n/65536=m/65536:=by omega
  have g2:n/256=m/256:=by omega
  omega
 have b1:¬ m<24:=by intro k;simp only[a1,a2,a3,a4,k,if_true,if_false]at hx;omega
 have b2:¬ m<256:=by intro k;simp only[a1,a2,a3,a4,b1,k,if_true,if_false]at hx;omega
 have b3:¬ m<65536:=by intro k;simp only[a1,a2,a3,a4,b1,b2,k,if_true,if_false]at hx;omega
 have b4:¬ m<4294967296:=by intro k;simp only[a1,a2,a3,a4,b1,b2,b3,k,if_true,if_false]at hx;omega
 simp only[a1,a2,a3,a4,b1,b2,b3,b4,if_false]at h
 exact TE hn hm h
theorem VG {a b n m:Nat}(ha:a<8) (hb:b<8) (hn:n<18446744073709551616) (hm:m<18446744073709551616) {r s:List UInt8}(h:zF a n++r=zF b m++s):a=b∧n=m∧r=s:=by
 rw[qq,qq,List.cons_append,List.cons_append]at h;injection h with h1 h2
 have h1:=vE h1;have x1:=aR n;have x2:=aR m;have hx:sU n=sU m:=by omega
 have hl:(qM n).length=(qM m).length:=by rw[de,de,hx]
 obtain⟨h3,h4⟩:=List.append_inj h2 hl
 exact⟨by omega,SW hn hm hx h3,h4⟩
mutual
def Nums:Itm→Prop
 | .mk _ n _ l=>n<18446744073709551616∧NumsL l
def NumsL:List Itm→Prop
 | []=>True
 | x::l=>Nums x∧NumsL l
end
theorem Nums.n_ {x:Itm}(h:Nums x):x.n<18446744073709551616:=by cases x;rw[Nums]at h;exact h.1
theorem Nums.items {x:Itm}(h:Nums x):NumsL x.items:=by cases x;rw[Nums]at h;exact h.2
theorem NumsL.get:∀ {l:List Itm},NumsL l→∀ x∈l,Nums x
 | [],_,x,hx=>by cases hx
 | y::l,h,x,hx=>by
  rw[NumsL]at h
  exact jcw
mutual
theorem IsItem.nums {H:Snap}:∀ {x:Itm}{ba:Option Addr}{bc:Nat}{ia:Option Addr}{ic:Nat},IsItem H ba bc ia ic x→Nums x
 | .mk k n bs l,ba,bc,ia,ic,h=>by
  rw[IsItem]at h;rw[Nums]
  refine⟨h.1.2.2.1, ?_⟩
  by_cases h0:0<l.length
  ·obtain⟨b,off,_,he⟩:=h.2.2 h0
   exact IsElems.nums he
  have:l=[]:=List.eq_nil_of_length_eq_zero (by omega);subst this;rw[NumsL];trivial
theorem IsElems.nums {H:Snap}:∀ {l:List Itm}{b off:Nat},IsElems H b off l→NumsL l
 | [],_,_,_=>by rw[NumsL];trivial
 | x::l,b,off,h=>by
  rw[IsElems]at h;obtain⟨⟨ba,bc,ia,ic,_,_,_,_,hx⟩,hr⟩:=h;rw[NumsL]
  exact⟨IsItem.nums hx,IsElems.nums hr⟩
end
theorem fz:∀ {l:List Itm}{x:Itm},x∈l→cnt x≤xM l
 | [],x,h=>by cases h
 | y::l,x,h=>by
  rw[xM]
  rcases List.mem_cons.1 h with rfl | h
  ·omega
  have:=fz h;omega
theorem km:∀ {l:List Itm}{x:Itm},x∈l→(zf x).length≤(zG l).length
 | [],x,h=>by cases h
 | y::l,x,h=>by
  rw[zG,List.length_append]
  rcases List.mem_cons.1 h with rfl | h
  ·omega
  have:=km h;omega
theorem uI {m x:Itm}(h:zR m=true) (hx:x∈m.items):zR x=true:=by
 rw[wj]at h⊢;obtain⟨h1,h2,h3⟩:=h
 refine⟨(h1.items.get x hx).le (by omega), ?_, ?_⟩
 ·have:=fz hx;have:=oA m;omega
 have:=km hx;have:=ku h1.node;omega
theorem Uy {a b:Itm}{l:List Itm}(h:xE (a::b::l)=true):xE l=true:=by
 match l with
 | []=>rfl
 | c::r=>rw[xE,Bool.and_eq_true]at h;exact h.2
def av (n v s x f:Nat):Prop:=s≤1∧v=s*32768+x*1024+f∧f<1024∧x≤31∧
 ((x=31∧f=0∧n=s*9223372036854775808+9218868437227405312)∨(x=0∧f=0∧n=s*9223372036854775808)∨
  (1≤x∧x≤30∧n=s*9223372036854775808+(x+1008)*4503599627370496+f*4398046511104)∨
  (x=0∧∃ t full,t<10∧2 ^ t≤f∧f<2 ^ (t+1)∧full=f*2 ^ (52-t)∧4503599627370496≤full∧n=s*9223372036854775808+(999+t)*4503599627370496+(full-4503599627370496)))
theorem kq (n v s x f:Nat) (h1:s≤1) (h2:v=s*32768+x*1024+f) (h3:f<1024) (h4:x≤31)
  (h:(x=31∧f=0∧n=s*9223372036854775808+9218868437227405312)∨(x=0∧f=0∧n=s*9223372036854775808)∨
  (1≤x∧x≤30∧n=s*9223372036854775808+(x+1008)*4503599627370496+f*4398046511104)∨
  (x=0∧∃ t full,t<10∧2 ^ t≤f∧f<2 ^ (t+1)∧full=f*2 ^ (52-t)∧4503599627370496≤full∧n=s*9223372036854775808+(999+t)*4503599627370496+(full-4503599627370496))):∃ s x f,av n v s x f :=
 ⟨s,x,f,h1,h2,h3,h4,h⟩
theorem tS {n v:Nat}(hn:n<18446744073709551616) (h:yz n 5 10=some v):∃ s x f,av n v s x f:=by
 obtain⟨ex,rx⟩:∃ ex,n/4503599627370496%2048=ex:=⟨_,rfl⟩
 obtain⟨mx,hJ⟩:∃ mx,n%4503599627370496=mx:=⟨_,rfl⟩
 obtain⟨sg,XI⟩:∃ sg,n/9223372036854775808=sg:=⟨_,rfl⟩
 have wu:sg≤1:=by omega
 have iQ:n=sg*9223372036854775808+ex*4503599627370496+mx:=by omega
 have MH:ex<2048:=by omega
 have pP:mx<4503599627370496:=by omega
 rw[yz]at h
 simp only[Nat.reducePow,Nat.reduceSub,Nat.reduceAdd,Nat.reduceMul,rx,hJ,XI]at h
 clear rx hJ XI hn
 split at h
 ·rename_i q1
  split at h
  ·rename_i q2
   injection h with h
   subst q1 q2
   exact kq _ _ _ _ _ wu (by omega) (by omega) (by omega) (.inl (And.intro rfl (And.intro rfl (by omega))))
  cases h
 rename_i c1
 split at h
 ·rename_i q1
  split at h
  ·rename_i q2
   injection h with h
   subst q1 q2
   exact kq _ _ _ 0 0 wu (by omega) (by omega) (by omega) (.inr (.inl (And.intro rfl (And.intro rfl (by rw[iQ,Nat.zero_mul];simp only[Nat.add_zero])))))
  cases h
 rename_i c2
 split at h
 ·cases h
 rename_i c3
 split at h
 ·rename_i c4
  split at h
  ·rename_i c5
   injection h with h
   obtain⟨x,hx⟩:∃ x,ex=x+1008:=⟨ex-1008,by omega⟩
   obtain⟨f,hf⟩:∃ f,mx=f*4398046511104:=⟨mx/4398046511104,by omega⟩
   subst hx hf
   exact kq _ _ _ x f wu (by omega) (by omega) (by omega) (.inr (.inr (.inl (And.intro (by omega) (And.intro (by omega) iQ)))))
  cases h
 rename_i c4
 split at h
 ·cases h
 rename_i c5
 split at h
 ·rename_i c6
  injection h with h
  obtain⟨t,ht⟩:∃ t,ex=999+t:=⟨ex-999,by omega⟩
  have XJ:43+(1023-ex-15)=52-t:=by omega
  rw[XJ]at h c6;obtain⟨f,hf⟩:∃ f,(mx+4503599627370496)/2 ^ (52-t)=f:=⟨_,rfl⟩
  have uS:mx+4503599627370496=f*2 ^ (52-t):=by
   exact jdZ
  have tm:0<2 ^ (52-t):=Nat.two_pow_pos _
  have e1:2 ^ t*2 ^ (52-t)=4503599627370496:=by
   exact jcG
  have e2:2 ^ (t+1)*2 ^ (52-t)=9007199254740992:=by
   exact jbC
  have b1:2 ^ t≤f:=by
   apply Nat.le_of_mul_le_mul_right _ tm
   omega
  have b2:f<2 ^ (t+1):=by
   apply Nat.lt_of_mul_lt_mul_right (a:=2 ^ (52-t))
   omega
  have b3:2 ^ (t+1)≤2 ^ 10:=Nat.pow_le_pow_right (by omega) (by omega)
  simp only[Nat.reducePow]at b3
  rw[hf]at h;have WO:n=sg*9223372036854775808+(999+t)*4503599627370496+(mx+4503599627370496-4503599627370496):=by rw[iQ,ht,Nat.add_sub_cancel]
  exact kq _ _ _ 0 f wu (by omega) (by omega) (by omega) (.inr (.inr (.inr (And.intro rfl ⟨t,mx+4503599627370496,by omega,b1,b2,uS,by omega,WO⟩))))
 cases h
theorem Y6 {f t t':Nat}(h1:2 ^ t≤f) (h2:f<2 ^ (t+1)) (h3:2 ^ t'≤f) (h4:f<2 ^ (t'+1)):t=t':=by
 exact jb2
theorem cA {n n' v:Nat}(hn:n<18446744073709551616) (WO:n'<18446744073709551616) (h:yz n 5 10=some v) (h':yz n' 5 10=some v):n=n':=by
 obtain⟨s,x,f,a1,a2,a3,a4,a5⟩:=tS hn h;obtain⟨s',x',f',b1,b2,b3,b4,b5⟩:=tS WO h';obtain rfl:s=s':=by omega
 obtain rfl:x=x':=by omega
 obtain rfl:f=f':=by omega
 rcases a5 with ⟨c1,c2,c3⟩ | ⟨c1,c2,c3⟩ | ⟨c1,c2,c3⟩ | ⟨c1,t,full,c2,c3,c4,c5,c6,c7⟩ <;> rcases b5 with ⟨d1,d2,d3⟩ | ⟨d1,d2,d3⟩ | ⟨d1,d2,d3⟩ | ⟨d1,t',full',d2,d3,d4,d5,d6,d7⟩
 all_goals try omega
 obtain rfl:=Y6 c3 c4 d3 d4;rw[← c5]at d5
 omega
theorem ZY {n v:Nat}(hn:n<18446744073709551616) (h:yz n 5 10=some v):v<65536:=by
 obtain⟨s,x,f,a1,a2,a3,a4,a5⟩:=tS hn h
 omega
def qI (n v s x f:Nat):Prop:=s≤1∧v=s*2147483648+x*8388608+f∧f<8388608∧x≤255∧
 ((x=255∧f=0∧n=s*9223372036854775808+9218868437227405312)∨(x=0∧f=0∧n=s*9223372036854775808)∨
  (1≤x∧x≤254∧n=s*9223372036854775808+(x+896)*4503599627370496+f*536870912)∨
  (x=0∧∃ t full,t<23∧2 ^ t≤f∧f<2 ^ (t+1)∧full=f*2 ^ (52-t)∧4503599627370496≤full∧n=s*9223372036854775808+(874+t)*4503599627370496+(full-4503599627370496)))
theorem kr (n v s x f:Nat) (h1:s≤1) (h2:v=s*2147483648+x*8388608+f) (h3:f<8388608) (h4:x≤255)
  (h:(x=255∧f=0∧n=s*9223372036854775808+9218868437227405312)∨(x=0∧f=0∧n=s*9223372036854775808)∨
  (1≤x∧x≤254∧n=s*9223372036854775808+(x+896)*4503599627370496+f*536870912)∨
  (x=0∧∃ t full,t<23∧2 ^ t≤f∧f<2 ^ (t+1)∧full=f*2 ^ (52-t)∧4503599627370496≤full∧n=s*9223372036854775808+(874+t)*4503599627370496+(full-4503599627370496))):∃ s x f,qI n v s x f :=
 ⟨s,x,f,h1,h2,h3,h4,h⟩
theorem ru {n v:Nat}(hn:n<18446744073709551616) (h:yz n 8 23=some v):∃ s x f,qI n v s x f:=by
 obtain⟨ex,rx⟩:∃ ex,n/4503599627370496%2048=ex:=⟨_,rfl⟩
 obtain⟨mx,hJ⟩:∃ mx,n%4503599627370496=mx:=⟨_,rfl⟩
 obtain⟨sg,XI⟩:∃ sg,n/9223372036854775808=sg:=⟨_,rfl⟩
 have wu:sg≤1:=by omega
 have iQ:n=sg*9223372036854775808+ex*4503599627370496+mx:=by omega
 have MH:ex<2048:=by omega
 have pP:mx<4503599627370496:=by omega
 rw[yz]at h
 simp only[Nat.reducePow,Nat.reduceSub,Nat.reduceAdd,Nat.reduceMul,rx,hJ,XI]at h
 clear rx hJ XI hn
 split at h
 ·rename_i q1
  split at h
  ·rename_i q2
   injection h with h
   subst q1 q2
   exact kr _ _ _ _ _ wu (by omega) (by omega) (by omega) (.inl (And.intro rfl (And.intro rfl (by omega))))
  cases h
 rename_i c1
 split at h
 ·rename_i q1
  split at h
  ·rename_i q2
   injection h with h
   subst q1 q2
   exact kr _ _ _ 0 0 wu (by omega) (by omega) (by omega) (.inr (.inl (And.intro rfl (And.intro rfl (by rw[iQ,Nat.zero_mul];simp only[Nat.add_zero])))))
  cases h
 rename_i c2
 split at h
 ·cases h
 rename_i c3
 split at h
 ·rename_i c4
  split at h
  ·rename_i c5
   injection h with h
   obtain⟨x,hx⟩:∃ x,ex=x+896:=⟨ex-896,by omega⟩
   obtain⟨f,hf⟩:∃ f,mx=f*536870912:=⟨mx/536870912,by omega⟩
   subst hx hf
   exact kr _ _ _ x f wu (by omega) (by omega) (by omega) (.inr (.inr (.inl (And.intro (by omega) (And.intro (by omega) iQ)))))
  cases h
 rename_i c4
 split at h
 ·cases h
 rename_i c5
 split at h
 ·rename_i c6
  injection h with h
  obtain⟨t,ht⟩:∃ t,ex=874+t:=⟨ex-874,by omega⟩
  have XJ:30+(1023-ex-127)=52-t:=by omega
  rw[XJ]at h c6;obtain⟨f,hf⟩:∃ f,(mx+4503599627370496)/2 ^ (52-t)=f:=⟨_,rfl⟩
  have uS:mx+4503599627370496=f*2 ^ (52-t):=by
   exact jdZ
  have tm:0<2 ^ (52-t):=Nat.two_pow_pos _
  have e1:2 ^ t*2 ^ (52-t)=4503599627370496:=by
   exact jcG
  have e2:2 ^ (t+1)*2 ^ (52-t)=9007199254740992:=by
   exact jbC
  have b1:2 ^ t≤f:=by
   apply Nat.le_of_mul_le_mul_right _ tm
   omega
  have b2:f<2 ^ (t+1):=by
   apply Nat.lt_of_mul_lt_mul_right (a:=2 ^ (52-t))
   omega
  have b3:2 ^ (t+1)≤2 ^ 23:=Nat.pow_le_pow_right (by omega) (by omega)
  simp only[Nat.reducePow]at b3
  rw[hf]at h;have WO:n=sg*9223372036854775808+(874+t)*4503599627370496+(mx+4503599627370496-4503599627370496):=by rw[iQ,ht,Nat.add_sub_cancel]
  exact kr _ _ _ 0 f wu (by omega) (by omega) (by omega) (.inr (.inr (.inr (And.intro rfl ⟨t,mx+4503599627370496,by omega,b1,b2,uS,by omega,WO⟩))))
 cases h
theorem Y7 {f t t':Nat}(h1:2 ^ t≤f) (h2:f<2 ^ (t+1)) (h3:2 ^ t'≤f) (h4:f<2 ^ (t'+1)):t=t':=by
 exact jb2
theorem cC {n n' v:Nat}(hn:n<18446744073709551616) (WO:n'<18446744073709551616) (h:yz n 8 23=some v) (h':yz n' 8 23=some v):n=n':=by
 obtain⟨s,x,f,a1,a2,a3,a4,a5⟩:=ru hn h;obtain⟨s',x',f',b1,b2,b3,b4,b5⟩:=ru WO h';obtain rfl:s=s':=by omega
 obtain rfl:x=x':=by omega
 obtain rfl:f=f':=by omega
 rcases a5 with ⟨c1,c2,c3⟩ | ⟨c1,c2,c3⟩ | ⟨c1,c2,c3⟩ | ⟨c1,t,full,c2,c3,c4,c5,c6,c7⟩ <;> rcases b5 with ⟨d1,d2,d3⟩ | ⟨d1,d2,d3⟩ | ⟨d1,d2,d3⟩ | ⟨d1,t',full',d2,d3,d4,d5,d6,d7⟩
 all_goals try omega
 obtain rfl:=Y7 c3 c4 d3 d4;rw[← c5]at d5
 omega
theorem Za {n v:Nat}(hn:n<18446744073709551616) (h:yz n 8 23=some v):v<4294967296:=by
 obtain⟨s,x,f,a1,a2,a3,a4,a5⟩:=ru hn h
 omega
theorem kV {n:Nat}(hn:n<18446744073709551616):yz n 5 10≠some 32256:=by
 intro h
 obtain⟨s,x,f,a1,a2,a3,a4,a5⟩:=tS hn h
 rcases a5 with ⟨c1,c2,c3⟩ | ⟨c1,c2,c3⟩ | ⟨c1,c2,c3⟩ | ⟨c1,t,full,c2,c3,c4,c5,c6,c7⟩ <;> omega
def iD (n:Nat):Prop:=n<18446744073709551616∧(isNaN n=true→n=ym)
theorem Xd {n m:Nat}(hn:iD n) (hm:iD m) {r s:List UInt8}(h:zO n++r=zO m++s):n=m∧r=s:=by
 have key:∀ n,iD n→(∃ v,zO n=[u8 249,u8 (v/256),u8 v]∧v<65536∧((isNaN n=true∧v=32256)∨(isNaN n=false∧yz n 5 10=some v)))∨
   (∃ v,zO n=[u8 250,u8 (v/16777216),u8 (v/65536),u8 (v/256),u8 v]∧v<4294967296∧yz n 8 23=some v)∨zO n=u8 251::be8 n 8:=by
  intro n hn
  unfold zO
  by_cases h1:isNaN n=true
  ·rw[if_pos h1]
   exact .inl ⟨32256,rfl,by omega,.inl ⟨h1,rfl⟩⟩
  rw[if_neg h1]
  cases h2:yz n 5 10 with
  | some v=>exact .inl ⟨v,rfl,ZY hn.1 h2,.inr ⟨by simpa using h1,rfl⟩⟩
  | none =>
  cases h3:yz n 8 23 with
  | some v=>exact .inr (.inl ⟨v,rfl,Za hn.1 h3,rfl⟩)
  | none=>exact .inr (.inr rfl)
 rcases key n hn with ⟨v,e,hv,hc⟩ | ⟨v,e,hv,hc⟩ | e <;> rcases key m hm with ⟨v',e',Rj,P5⟩ | ⟨v',e',Rj,P5⟩ | e' <;> rw[e,e']at h <;> simp only[List.cons_append,List.nil_append]at h <;> injection h with h0 h
 any_goals (have:=vE h0;omega)
 ·obtain⟨h1,h2,h3⟩:=lE h;have h1:=vE h1;have h2:=vE h2;obtain rfl:v=v':=by omega
  refine⟨?_,h3⟩
  rcases hc with ⟨c1,c2⟩ | ⟨c1,c2⟩ <;> rcases P5 with ⟨d1,d2⟩ | ⟨d1,d2⟩
  ·rw[hn.2 c1,hm.2 d1]
  ·rw[c2]at d2;exact absurd d2 (kV hm.1)
  ·rw[d2]at c2;exact absurd c2 (kV hn.1)
  exact cA hn.1 hm.1 c2 d2
 ·obtain⟨h1,h2,h3⟩:=lE h;obtain⟨h4,h5,h6⟩:=lE h3;have h1:=vE h1;have h2:=vE h2;have h4:=vE h4;have h5:=vE h5;have g0:v/16777216=v'/16777216:=by omega
  have g1:v/65536=v'/65536:=by omega
  have g2:v/256=v'/256:=by omega
  obtain rfl:v=v':=by omega
  exact⟨cC hn.1 hm.1 hc P5,h6⟩
 obtain⟨h1,h2⟩:=List.append_inj h (by rw[uv,uv])
 exact⟨TE hn.1 hm.1 h1,h2⟩
theorem mf {x:Itm}(h8:x.kind=8) (h:zH x=true) (hn:Nums x):iD x.n:=by
 refine⟨hn.n_,fun hq=>?_⟩
 simp[zH,h8,hq]at h
 exact h.2
theorem fV {x:Itm}(h:0≤x.kind∧x.kind≤8) (h8:x.kind≠8) (h7:¬ (x.kind=7∧24≤x.n)) (r:List UInt8):zf x++r=zF x.kind.toNat (numP x)++(x.bytes++(zG x.items++r)):=by
 rw[xu,if_neg h8,if_neg h7,List.append_assoc,List.append_assoc]
structure Fits (x:Itm) (lv:Nat):Prop where
 good:Good x lv
 small:Small x
 nums:Nums x
 cnt:cnt x≤256
theorem Fits.of {x:Itm}(h:zR x=true) (hn:Nums x):Fits x 0:=by
 rw[wj]at h
 exact⟨h.1,h.1.small h.2.2,hn,h.2.1⟩
theorem SmallL.get:∀ {l:List Itm},SmallL l→∀ x∈l,Small x
 | [],_,x,hx=>by cases hx
 | y::l,h,x,hx=>by
  rw[SmallL]at h
  exact jcw
theorem Small.items {x:Itm}(h:Small x):SmallL x.items:=by cases x;rw[Small]at h;exact h.2
theorem Small.bytes {x:Itm}(h:Small x):x.bytes.length≤4096:=by cases x;rw[Small]at h;exact h.1
theorem Fits.elem {x y:Itm}{lv:Nat}(h:Fits x lv) (hy:y∈x.items):Fits y (lv+1) :=
 ⟨h.good.items.get y hy,h.small.items.get y hy,h.nums.items.get y hy,by have:=fz hy;have:=oA x;have:=h.cnt;omega⟩
theorem Fits.numP {x:Itm}{lv:Nat}(h:Fits x lv):numP x<18446744073709551616:=by
 have h1:=h.small.bytes;have h2:=kk x.items;have h3:=oA x;have h4:=h.cnt;have h5:=h.nums.n_
 unfold Proofs.YtgaoknihklmakabGreatDoor.numP
 repeat' split
 all_goals omega
theorem aN {x:Itm}{lv:Nat}(h:Good x lv) (hk:4≤x.kind∧x.kind≤6):vl x lv=true:=by
 rcases xV h.node with ⟨h1,_⟩ | ⟨_,h1⟩
 ·rw[zP]at h1;omega
 exact h1
theorem lA {x:Itm}{lv:Nat}(h:Good x lv) (hk:x.kind=0∨x.kind=1∨x.kind=2∨x.kind=3∨x.kind=7∨x.kind=8):zH x=true:=by
 rcases xV h.node with ⟨_,h1⟩ | ⟨h1,_⟩
 ·exact h1
 rw[(zP x).2 hk]at h1;cases h1
theorem Ww {x:Itm}(h:oU x=7):x.kind=7∨x.kind=8:=by
 unfold oU at h
 by_cases h8:x.kind=8
 ·exact .inr h8
 rw[if_neg h8]at h;omega
theorem TZ {x:Itm}(h:x.kind=8):oU x=7:=by rw[oU,if_pos h]
theorem Nu {x:Itm}(h:x.kind=7):oU x=7:=by rw[oU,if_neg (by omega)];omega
theorem Wv {x:Itm}(h:x.kind≠8):oU x=x.kind.toNat:=by rw[oU,if_neg h]
mutual
theorem g8:∀ (x y:Itm) (lv lv':Nat) (r s:List UInt8),Fits x lv→Fits y lv'→zf x++r=zf y++s→x=y∧r=s
 | .mk k n bs l,y,lv,lv',r,s,hx,hy,h=>by
  have th:=qB hx.good.node;have eB:=qB hy.good.node;have ht:=Nv th eB h;have Rg:=hx.numP;have D2:=hy.numP
  by_cases h7:oU (.mk k n bs l)=7
  ·-- simple values and floats
   have ky:y.kind=7∨y.kind=8:=by
    rw[h7]at ht
    exact Ww ht.symm
   have kx:k=7∨k=8:=by
    have h7:=Ww h7
    simp only[Itm.kind]at h7 th
    omega
   have ox:=lA hx.good (by simp only[Itm.kind];omega);have oy:=lA hy.good (by omega);have F8:∀ z:Itm,z.kind=8→zf z=zO z.n:=fun z hz=>by rw[xu,if_pos hz]
   have F7:∀ z:Itm,z.kind=7→zH z=true→z.n<256∧z.bytes=[]∧z.items=[]∧((24≤z.n∧zf z=[u8 248,u8 z.n])∨(z.n<24∧zf z=[u8 (224+z.n)])):=by
    intro z hz ho
    have hi:=yK ((zP z).2 (by omega)) ho;have hb:=hi.2 (by omega);have hn:z.n<256:=by simp[zH,hz]at ho;omega
    refine⟨hn,hb,hi.1, ?_⟩
    by_cases tZ:24≤z.n
    ·exact .inl ⟨tZ,by rw[xu,if_neg (by omega),if_pos ⟨hz,tZ⟩]⟩
    refine .inr ⟨by omega, ?_⟩
    have hp:Proofs.YtgaoknihklmakabGreatDoor.numP z=z.n:=by simp[Proofs.YtgaoknihklmakabGreatDoor.numP,hz]
    rw[xu,if_neg (by omega),if_neg (by omega),hb,hi.1,zG,hp,zF,if_pos (by omega),hz];rfl
   have G8:∀ z:Itm,z.kind=8→zH z=true→z.bytes=[]∧z.items=[]:=by
    intro z hz ho
    have hi:=yK ((zP z).2 (by omega)) ho
    exact⟨hi.2 (by omega),hi.1⟩
   obtain⟨k',n',bs',l'⟩:=y
   simp only[Itm.kind]at ky
   rcases kx with rfl | rfl <;> rcases ky with rfl | rfl
   ·obtain⟨a1,a2,a3,a4⟩:=F7 _ rfl ox;obtain⟨b1,b2,b3,b4⟩:=F7 _ rfl oy
    simp only[Itm.n,Itm.bytes,Itm.items]at *
    subst a2 a3 b2 b3
    rcases a4 with ⟨a4,a5⟩ | ⟨a4,a5⟩ <;> rcases b4 with ⟨b4,b5⟩ | ⟨b4,b5⟩ <;> rw[a5,b5]at h <;> simp only[List.cons_append,List.nil_append]at h
    ·obtain⟨_,h2,h3⟩:=lE h;have:=vE h2
     exact⟨by congr 1;omega,h3⟩
    ·injection h with h1 _
     have:=vE h1
     omega
    ·injection h with h1 _
     have:=vE h1
     omega
    injection h with h1 h2
    have:=vE h1
    exact⟨by congr 1;omega,h2⟩
   ·obtain⟨_,_,_,a4⟩:=F7 _ rfl ox;rw[F8 (.mk 8 n' bs' l') rfl]at h;obtain⟨c,t,e,c1,c2⟩:=nt n'
    exact jbV
   ·obtain⟨_,_,_,a4⟩:=F7 _ rfl oy;rw[F8 (.mk 8 n bs l) rfl]at h;obtain⟨c,t,e,c1,c2⟩:=nt n
    exact jbV
   rw[F8 (.mk 8 n bs l) rfl,F8 (.mk 8 n' bs' l') rfl]at h;obtain⟨a1,a2⟩:=G8 _ rfl ox;obtain⟨b1,b2⟩:=G8 _ rfl oy;obtain⟨h1,h2⟩:=Xd (mf rfl ox hx.nums) (mf rfl oy hy.nums) h
   simp only[Itm.n,Itm.bytes,Itm.items]at *
   subst a1 a2 b1 b2 h1 h2
   exact jcs
  have CH:oU y≠7:=by rw[← ht];exact h7
  have kx:k≠8∧k≠7:=by
   constructor
   ·intro h8;exact h7 (TZ h8)
   intro h8;exact h7 (Nu h8)
  have ky:y.kind=k:=by
   have a1:=Wv (x:=.mk k n bs l) kx.1;have a2:=Wv (x:=y) (fun h8=>CH (TZ h8))
   simp only[Itm.kind]at a1 th
   omega
  rw[fV th kx.1 (fun h=>kx.2 h.1),fV eB (by rw[ky];exact kx.1) (fun h=>kx.2 (by rw[← ky];exact h.1)),ky]at h
  simp only[Itm.kind,Itm.bytes,Itm.items]at h th
  obtain⟨_,rj,hz⟩:=VG (by omega) (by omega) Rg D2 h;obtain⟨k',n',bs',l'⟩:=y
  simp only[Itm.kind]at ky
  subst ky
  simp only[Proofs.YtgaoknihklmakabGreatDoor.numP,Itm.kind,Itm.n,Itm.bytes,Itm.items]at rj hz
  by_cases hp:k'=0∨k'=1∨k'=2∨k'=3
  ·have ox:=lA hx.good (by simp only[Itm.kind];omega);have oy:=lA hy.good (by simp only[Itm.kind];omega);have ix:=(yK ((zP _).2 (by simp only[Itm.kind];omega)) ox).1;have iy:=(yK ((zP _).2 (by simp only[Itm.kind];omega)) oy).1
   simp only[Itm.items]at ix iy
   subst ix iy;rw[zG,List.nil_append,List.nil_append]at hz
   rcases hp with rfl | rfl | rfl | rfl
   ·exact jc3
   ·exact jc3
   ·simp[zH,Itm.kind,Itm.bytes,Itm.items,Itm.n]at ox oy rj
    obtain⟨h1,h2⟩:=List.append_inj hz rj;subst ox oy h1 h2
    exact jcs
   simp[zH,Itm.kind,Itm.bytes,Itm.items,Itm.n]at ox oy rj
   obtain⟨h1,h2⟩:=List.append_inj hz rj;obtain⟨ox,_⟩:=ox;obtain⟨oy,_⟩:=oy;subst ox oy h1 h2
   exact jcs
  have fx:=xH (aN hx.good (by simp only[Itm.kind];omega));have fy:=xH (aN hy.good (by simp only[Itm.kind];omega))
  simp only[Itm.kind,Itm.bytes,Itm.items,Itm.n,List.length_eq_zero_iff]at fx fy
  obtain⟨_,_,_,hb,x6,xn,x5⟩:=fx;obtain⟨_,_,_,N6,y6,yn,y5⟩:=fy;subst hb N6;rw[List.nil_append,List.nil_append]at hz
  have lU:l.length=l'.length∧n=n':=by
   by_cases e4:k'=4
   ·have:=xn (by omega);have:=yn (by omega)
    simp[e4]at rj
    omega
   by_cases e5:k'=5
   ·have:=xn (by omega);have:=yn (by omega);have:=x5 e5;have:=y5 e5
    simp[e5]at rj
    omega
   have e6:k'=6:=by omega
   have:=x6 e6;have:=y6 e6
   simp[e6]at rj
   omega
  obtain⟨h1,h2⟩:=aL l l' (lv+1) (lv'+1) r s lU.1 (fun z hz'=>hx.elem hz') (fun z hz'=>hy.elem hz') hz
  exact⟨by rw[h1,lU.2],h2⟩
theorem aL:∀ (l m:List Itm) (lv lv':Nat) (r s:List UInt8),l.length=m.length→(∀ x∈l,Fits x lv)→(∀ x∈m,Fits x lv')→zG l++r=zG m++s→l=m∧r=s
 | [],[],_,_,r,s,_,_,_,h=>by
  rw[zG,List.nil_append,List.nil_append]at h
  exact⟨rfl,h⟩
 | [],_::_,_,_,_,_,hl,_,_,_=>by simp at hl
 | _::_,[],_,_,_,_,hl,_,_,_=>by simp at hl
 | x::l,y::m,lv,lv',r,s,hl,hx,hy,h=>by
  rw[zG,zG,List.append_assoc,List.append_assoc]at h;obtain⟨h1,h2⟩:=g8 x y lv lv' _ _ (hx x (by simp)) (hy y (by simp)) h;obtain⟨h3,h4⟩:=aL l m lv lv' r s (by simpa using hl) (fun z hz=>hx z (by simp[hz])) (fun z hz=>hy z (by simp[hz])) h2
  exact⟨by rw[h1,h3],h4⟩
end
theorem iF {n t:Nat}(h1:2 ^ t≤n) (h2:n<2 ^ (t+1)):n.log2=t:=by
 have hn:n≠0:=by have:=Nat.two_pow_pos t;omega
 have a:=(Nat.le_log2 hn).2 h1;have b:=(Nat.log2_lt hn).2 h2
 omega
theorem nI (neg:Bool) (q d:Nat) (h:d≤(q*2 ^ d).log2+2):Ieee.Toward.even.cut neg (q*2 ^ d) d=q:=by
 have hg:(1:Nat) <<< min d ((q*2 ^ d).log2+2)=2 ^ d:=by rw[Nat.min_eq_left h,Nat.shiftLeft_eq,Nat.one_mul]
 have hp:0<2 ^ d:=Nat.two_pow_pos d;have h1:q*2 ^ d/2 ^ d=q:=Nat.mul_div_cancel _ hp;have h2:q*2 ^ d%2 ^ d=0:=Nat.mul_mod_left _ _
 unfold Ieee.Toward.cut
 simp only[hg,h1,h2]
 have e1:decide (2 ^ d<2*0)=false:=by simp
 have e2:(2 ^ d==2*0)=false:=by rw[beq_eq_false_iff_ne];omega
 rw[e1,e2]
 simp
theorem eQ {r:Nat}(hr:r<4294967296) (hn:(Ieee.single.read r).isNaN=false):∃ n s x f,n<18446744073709551616∧qI n r s x f:=by
 obtain⟨s,hs⟩:∃ s,r/2147483648=s:=⟨_,rfl⟩
 obtain⟨x,hx⟩:∃ x,r/8388608%256=x:=⟨_,rfl⟩
 obtain⟨f,hf⟩:∃ f,r%8388608=f:=⟨_,rfl⟩
 have wu:s≤1:=by omega
 have ph:x≤255:=by omega
 have ez:f<8388608:=by omega
 have hv:r=s*2147483648+x*8388608+f:=by omega
 by_cases h1:x=255
 ·by_cases h0:f=0
  ·exact⟨s*9223372036854775808+9218868437227405312,s,x,f,by omega,wu,by omega,by omega,by omega,.inl ⟨h1,h0,rfl⟩⟩
  exfalso
  obtain⟨e1,e2,e3⟩:=jgE
  unfold Ieee.Format.read at hn
  rw[e1,e2,e3]at hn
  simp only[show ¬ r%2147483648<8388608 by omega,show ¬ r%2147483648<2139095040 by omega,show ¬ r%2147483648=2139095040 by omega,if_false]at hn
  cases hn
 by_cases h2:x=0
 ·by_cases h0:f=0
  ·exact⟨s*9223372036854775808,s,x,f,by omega,wu,by omega,by omega,by omega,.inr (.inl ⟨h2,h0,rfl⟩)⟩
  obtain⟨a1,a2⟩:=jhv;have a3:f.log2<23:=(Nat.log2_lt h0).2 (by simpa using ez)
  generalize f.log2=t at a1 a2 a3
  have e1:2 ^ t*2 ^ (52-t)=4503599627370496:=by
   exact jcG
  have e2:2 ^ (t+1)*2 ^ (52-t)=9007199254740992:=by
   exact jbC
  have b1:=Nat.mul_le_mul_right (2 ^ (52-t)) a1;have b2:=Nat.mul_lt_mul_of_pos_right a2 (Nat.two_pow_pos (52-t))
  refine⟨s*9223372036854775808+(874+t)*4503599627370496+(f*2 ^ (52-t)-4503599627370496),s,x,f,by omega,wu,by omega,by omega,by omega,.inr (.inr (.inr ⟨h2,t,_,a3,a1,a2,rfl,by omega,rfl⟩))⟩
 exact⟨s*9223372036854775808+(x+896)*4503599627370496+f*536870912,s,x,f,by omega,wu,by omega,by omega,by omega,.inr (.inr (.inl ⟨by omega,by omega,rfl⟩))⟩
theorem cV (s r:Nat) (hs:s≤1):Ieee.double.word (s%2==1) r=s*9223372036854775808+r:=by
 have e:Ieee.double.signWeight=9223372036854775808:=rfl
 exact jdx
theorem cW (s r:Nat) (hs:s≤1):Ieee.single.word (s%2==1) r=s*2147483648+r:=by
 have e:Ieee.single.signWeight=2147483648:=rfl
 exact jdx
theorem YQ {n v s x f:Nat}(h:qI n v s x f):Ieee.single.read v=if x=255 then .infinity (s%2==1) else if x=0 then .number (s%2==1) f (-149) else .number (s%2==1) (8388608+f) ((x:Int)-150):=by
 obtain⟨a1,a2,a3,a4,a5⟩:=h;obtain⟨e1,e2,e3⟩:=jgE;have e4:Ieee.single.leastPlace = -149:=rfl;have hd:v/2147483648=s:=by omega
 have hm:v%2147483648=x*8388608+f:=by omega
 unfold Ieee.Format.read
 rw[e1,e2,e3,e4,hd,hm]
 simp only
 by_cases h0:x=0
 ·exact jd0
 rw[if_neg (by omega)]
 by_cases h1:x=255
 ·have:f=0:=by omega
  rw[if_neg (by omega),if_pos (by omega),if_pos h1]
 exact jdW
theorem cS {n v s x f:Nat}(h:qI n v s x f):∃ e m,e≤2047∧m<4503599627370496∧n=s*9223372036854775808+e*4503599627370496+m∧
  (x=255→e=2047∧m=0)∧(x=0∧f=0→e=0∧m=0)∧(1≤x∧x≤254→e=x+896∧m=f*536870912)∧(x=0∧0<f→∃ t,t<23∧2 ^ t≤f∧f<2 ^ (t+1)∧e=874+t∧m+4503599627370496=f*2 ^ (52-t))∧
  Ieee.double.read n=if e=2047 then .infinity (s%2==1) else if e=0 then .number (s%2==1) m (-1074) else .number (s%2==1) (4503599627370496+m) ((e:Int)-1075):=by
 obtain⟨a1,a2,a3,a4,a5⟩:=h
 have key:∀ e m,e≤2047→m<4503599627370496→(e=2047→m=0)→n=s*9223372036854775808+e*4503599627370496+m→Ieee.double.read n=if e=2047 then .infinity (s%2==1) else if e=0 then .number (s%2==1) m (-1074) else .number (s%2==1) (4503599627370496+m) ((e:Int)-1075):=by
  intro e m he hm h7 hn
  have e1:=jhK;obtain⟨e2,e3,e4⟩:=jfW;have hd:n/9223372036854775808=s:=by omega
  have Re:n%9223372036854775808=e*4503599627370496+m:=by omega
  unfold Ieee.Format.read
  rw[e1,e2,e3,e4,hd,Re]
  simp only
  by_cases h0:e=0
  ·exact jd0
  rw[if_neg (by omega)]
  by_cases h1:e=2047
  ·have:=h7 h1;rw[if_neg (by omega),if_pos (by omega),if_pos h1]
  exact jdW
 rcases a5 with ⟨c1,c2,c3⟩ | ⟨c1,c2,c3⟩ | ⟨c1,c2,c3⟩ | ⟨c1,t,full,c2,c3,c4,c5,c6,c7⟩
 ·exact⟨2047,0,by omega,by omega,by omega,fun _=>⟨rfl,rfl⟩,by omega,by omega,by omega,key 2047 0 (by omega) (by omega) (fun _=>rfl) (by omega)⟩
 ·have C3:n=s*9223372036854775808+0*4503599627370496+0:=by rw[c3];simp only[Nat.zero_mul,Nat.add_zero]
  have C3:=Hh C3;clear c3;have x1:x≠255:=by omega
  have x3:¬ (1≤x∧x≤254):=by omega
  have x4:¬ (x=0∧0<f):=by omega
  exact⟨0,0,by omega,by omega,C3.out,fun h=>absurd h x1,fun _=>⟨rfl,rfl⟩,fun h=>absurd h x3,fun h=>absurd h x4,key 0 0 (by omega) (by omega) (by omega) C3.out⟩
 ·have C3:=Hh c3;clear c3;have t1:x+896≤2047:=by omega
  have t2:x+896≠2047:=by omega
  have m1:f*536870912<4503599627370496:=by omega
  have x1:x≠255:=by omega
  have x2:x≠0:=by omega
  exact⟨x+896,f*536870912,t1,m1,C3.out,fun h=>absurd h x1,fun h=>absurd h.1 x2,fun _=>⟨rfl,rfl⟩,fun h=>absurd h.1 x2,key _ _ t1 m1 (fun h=>absurd h t2) C3.out⟩
 have hp:0<f:=by have:=Nat.two_pow_pos t;omega
 have e2:2 ^ (t+1)*2 ^ (52-t)=9007199254740992:=by
  exact jbC
 have b2:=Nat.mul_lt_mul_of_pos_right c4 (Nat.two_pow_pos (52-t));rw[e2,← c5]at b2;have C7:=Hh c7;clear c7;have m1:full-4503599627370496<4503599627370496:=by clear a2;omega
 have m2:full-4503599627370496+4503599627370496=f*2 ^ (52-t):=by rw[← c5];clear a2;omega
 have t1:874+t≤2047:=by omega
 have t2:874+t≠2047:=by omega
 have x1:x≠255:=by omega
 have x2:¬ (x=0∧f=0):=by omega
 have x3:¬ (1≤x∧x≤254):=by omega
 exact⟨874+t,full-4503599627370496,t1,m1,C7.out,fun h=>absurd h x1,fun h=>absurd h x2,fun h=>absurd h x3,fun _=>⟨t,c2,c3,c4,rfl,m2⟩,key _ _ t1 m1 (fun h=>absurd h t2) C7.out⟩
theorem cR {n v s x f:Nat}(h:qI n v s x f):floatToFloatBits .f32 v .f64=some n:=by
 have hr:=YQ h;obtain⟨e,m,he,hm,hn,g1,g2,g3,g4,hd⟩:=cS h;obtain⟨a1,a2,a3,a4,_⟩:=h;have e1:Ieee.double.fractionBits=52:=rfl;obtain⟨e2,e3,e4⟩:=jfW
 have hw:Ieee.double.write (Ieee.single.read v)=n:=by
  rw[hr]
  by_cases h1:x=255
  ·obtain⟨rfl,rfl⟩:=g1 h1;rw[if_pos h1];show Ieee.double.word _ Ieee.double.infRung=n
   rw[cV _ _ a1,e3];omega
  rw[if_neg h1]
  have near:∀ (mag:Nat) (pl:Int) (t:Nat),t≤52→2 ^ t≤mag→mag<2 ^ (t+1)→-149≤pl→pl≤104→e=(pl+t+1023).toNat→mag*2 ^ (52-t)=4503599627370496+m→Ieee.double.nearest (s%2==1) mag pl=n:=by
   intro mag pl t ht b1 b2 p1 p2 he' Re
   have hl:=iF b1 b2;have h0:mag≠0:=by have:=Nat.two_pow_pos t;omega
   unfold Ieee.Format.nearest
   rw[if_neg h0,hl,e1,e2,e3,e4];have oD:max (pl+(t:Int)-(52:Nat)) (-1074)=pl+t-52:=by omega
   simp only[oD]
   rw[show(pl-(pl+(t:Int)-52)).toNat=52-t by omega,show((pl+(t:Int)-52)-pl).toNat=0 by omega,Nat.shiftLeft_eq,Re];have hc:=nI (s%2==1) (4503599627370496+m) 0 (by omega);rw[Nat.pow_zero,Nat.mul_one]at hc;rw[hc,cV _ _ a1,Nat.min_eq_left (by omega)]
   omega
  by_cases h2:x=0
  ·rw[if_pos h2]
   by_cases h3:f=0
   ·obtain⟨rfl,rfl⟩:=g2 ⟨h2,h3⟩;subst h3;show Ieee.double.nearest _ 0 _=n
    unfold Ieee.Format.nearest
    rw[if_pos rfl,cV _ _ a1];omega
   obtain⟨t,t1,t2,t3,t4,t5⟩:=g4 ⟨h2,by omega⟩
   exact near f (-149) t (by omega) t2 t3 (by omega) (by omega) (by omega) (by omega)
  rw[if_neg h2];obtain⟨k1,k2⟩:=g3 ⟨by omega,by omega⟩
  refine near (8388608+f) ((x:Int)-150) 23 (by omega) (by simp) (by simp;omega) (by omega) (by omega) (by omega) ?_
  simp only[Nat.reduceSub,Nat.reducePow]
  omega
 unfold floatToFloatBits
 rw[if_neg (by decide)];show(match Ieee.single.read v with | .nan _ _=>none | .infinity s=>some (Ieee.double.write (.infinity s)) | .number s m e=>if(Ieee.double.read (Ieee.double.write (.number s m e))).isInfinity then none else some (Ieee.double.write (.number s m e)))=some n
 cases hq:Ieee.single.read v with
 | nan a b =>
  rw[hq]at hr
  split at hr
  ·cases hr
  split at hr <;> cases hr
 | infinity q=>simp only;rw[← hq,hw]
 | number a b c =>
 simp only
 rw[← hq,hw]
 have hx:x≠255:=by
  intro h1
  rw[hq,if_pos h1]at hr
  cases hr
 have Cq:e≠2047:=by
  by_cases h2:x=0
  ·by_cases h3:f=0
   ·have:=g2 ⟨h2,h3⟩;omega
   obtain⟨t,t1,t2,t3,t4,t5⟩:=g4 ⟨h2,by omega⟩;omega
  have:=g3 ⟨by omega,by omega⟩;omega
 rw[hd,if_neg Cq]
 by_cases h0:e=0
 ·rw[if_pos h0];rfl
 rw[if_neg h0];rfl
theorem Wt {n v s x f:Nat}(h:qI n v s x f):floatToFloatBits .f64 n .f32=some v:=by
 have hr:=YQ h;obtain⟨e,m,he,hm,hn,g1,g2,g3,g4,hd⟩:=cS h;obtain⟨a1,a2,a3,a4,_⟩:=h;have e1:Ieee.single.fractionBits=23:=rfl;have e2:Ieee.single.binade=8388608:=rfl;have e3:Ieee.single.infRung=2139095040:=rfl;have e4:Ieee.single.leastPlace = -149:=rfl
 have hw:Ieee.single.write (Ieee.double.read n)=v:=by
  rw[hd]
  by_cases h1:x=255
  ·obtain⟨h5,h6⟩:=g1 h1;rw[if_pos h5];show Ieee.single.word _ Ieee.single.infRung=v
   rw[cW _ _ a1,e3]
   omega
  by_cases h2:x=0
  ·by_cases h3:f=0
   ·obtain⟨h5,h6⟩:=g2 ⟨h2,h3⟩;rw[if_neg (by omega),if_pos h5,h6];show Ieee.single.nearest _ 0 _=v
    unfold Ieee.Format.nearest
    rw[if_pos rfl,cW _ _ a1];omega
   obtain⟨t,t1,t2,t3,t4,t5⟩:=g4 ⟨h2,by omega⟩;rw[if_neg (by omega),if_neg (by omega)];show Ieee.single.nearest _ _ _=v
   have hl:(4503599627370496+m).log2=52:=iF (by simp) (by simp;omega)
   unfold Ieee.Format.nearest
   rw[if_neg (by omega),hl,e1,e2,e3,e4];have oD:max ((e:Int)-1075+(52:Nat)-(23:Nat)) (-149) = -149:=by omega
   simp only[oD]
   rw[show((e:Int)-1075 - -149).toNat=0 by omega,show(-149-((e:Int)-1075)).toNat=52-t by omega,Nat.shiftLeft_eq,Nat.pow_zero,Nat.mul_one,show 4503599627370496+m=f*2 ^ (52-t) by omega];rw[nI _ _ _ (by rw[← t5,Nat.add_comm m,hl];omega),cW _ _ a1,Nat.min_eq_left (by omega)];rw[a2,h2,show((-149:Int) - -149).toNat=0 from rfl]
   simp only[Nat.zero_mul,Nat.zero_add,Nat.add_zero]
  obtain⟨k1,k2⟩:=g3 ⟨by omega,by omega⟩;rw[if_neg (by omega),if_neg (by omega)];show Ieee.single.nearest _ _ _=v
  have hl:(4503599627370496+m).log2=52:=iF (by simp) (by simp;omega)
  unfold Ieee.Format.nearest
  rw[if_neg (by omega),hl,e1,e2,e3,e4];have oD:max ((e:Int)-1075+(52:Nat)-(23:Nat)) (-149)=(e:Int)-1046:=by omega
  simp only[oD]
  have hq:4503599627370496+m=(8388608+f)*2 ^ 29:=by simp only[Nat.reducePow];omega
  rw[show((e:Int)-1075-((e:Int)-1046)).toNat=0 by omega,show(((e:Int)-1046)-((e:Int)-1075)).toNat=29 by omega,Nat.shiftLeft_eq,Nat.pow_zero,Nat.mul_one,hq];rw[nI _ _ _ (by rw[← hq,hl];omega),cW _ _ a1,Nat.min_eq_left (by omega)]
  omega
 unfold floatToFloatBits
 rw[if_neg (by decide)];show(match Ieee.double.read n with | .nan _ _=>none | .infinity s=>some (Ieee.single.write (.infinity s)) | .number s m e=>if(Ieee.single.read (Ieee.single.write (.number s m e))).isInfinity then none else some (Ieee.single.write (.number s m e)))=some v
 cases hq:Ieee.double.read n with
 | nan a b =>
  rw[hq]at hd
  split at hd
  ·cases hd
  split at hd <;> cases hd
 | infinity q=>simp only;rw[← hq,hw]
 | number a b c =>
 simp only
 rw[← hq,hw]
 have hx:x≠255:=by
  intro h1
  have:=g1 h1;rw[hq,if_pos this.1]at hd
  cases hd
 rw[hr,if_neg hx]
 by_cases h0:x=0
 ·rw[if_pos h0];rfl
 rw[if_neg h0];rfl
theorem nu {n v s x f:Nat}(h:qI n v s x f):yz n 8 23=some v:=by
 obtain⟨e,m,he,hm,hn,g1,g2,g3,g4,hd⟩:=cS h;obtain⟨a1,a2,a3,a4,_⟩:=h;have k1:n/4503599627370496%2048=e:=by omega
 have k2:n%4503599627370496=m:=by omega
 have k3:n/9223372036854775808=s:=by omega
 rw[yz]
 simp only[Nat.reducePow,Nat.reduceSub,Nat.reduceAdd,Nat.reduceMul,k1,k2,k3]
 by_cases h1:x=255
 ·obtain⟨h5,h6⟩:=g1 h1;rw[if_pos h5,if_pos h6];congr 1;omega
 by_cases h2:x=0
 ·by_cases h3:f=0
  ·obtain⟨h5,h6⟩:=g2 ⟨h2,h3⟩;rw[if_neg (by omega),if_pos h5,if_pos h6];congr 1;omega
  obtain⟨t,t1,t2,t3,t4,t5⟩:=g4 ⟨h2,by omega⟩;rw[if_neg (by omega),if_neg (by omega),if_neg (by omega),if_neg (by omega),if_neg (by omega),show 30+(1023-e-127)=52-t by omega,t5,if_pos (Nat.mul_mod_left _ _),Nat.mul_div_cancel _ (Nat.two_pow_pos _)];congr 1;omega
 obtain⟨h5,h6⟩:=g3 ⟨by omega,by omega⟩;exact jcO
def dw (v:Nat):Option Nat :=
 let s:=v/2147483648
 let e:=v/8388608%256
 let m:=v%8388608
 if e=255 then some (s*32768+31744) else if e=0 then(if m=0 then some (s*32768) else none)
 else if 113≤e∧e≤142 then(if m%8192=0 then some (s*32768+(e-112)*1024+m/8192) else none)
 else if 103≤e∧e<113 then(if(m+8388608)%2 ^ (126-e)=0 then some (s*32768+(m+8388608)/2 ^ (126-e)) else none) else none
theorem QG {n v s x f:Nat}(h:qI n v s x f):dw v=yz n 5 10:=by
 obtain⟨e,m,he,hm,hn,g1,g2,g3,g4,hd⟩:=cS h;obtain⟨a1,a2,a3,a4,_⟩:=h;have k1:n/4503599627370496%2048=e:=by omega
 have k2:n%4503599627370496=m:=by omega
 have k3:n/9223372036854775808=s:=by omega
 have j1:v/2147483648=s:=by omega
 have j2:v/8388608%256=x:=by omega
 have j3:v%8388608=f:=by omega
 rw[yz,dw]
 simp only[Nat.reducePow,Nat.reduceSub,Nat.reduceAdd,Nat.reduceMul,k1,k2,k3,j1,j2,j3]
 by_cases h1:x=255
 ·obtain⟨h5,h6⟩:=g1 h1;rw[if_pos h5,if_pos h6,if_pos h1]
 by_cases h2:x=0
 ·by_cases h3:f=0
  ·obtain⟨h5,h6⟩:=g2 ⟨h2,h3⟩;rw[if_neg (by omega),if_pos h2,if_pos h3,if_neg (by omega),if_pos h5,if_pos h6]
  obtain⟨t,t1,t2,t3,t4,t5⟩:=g4 ⟨h2,by omega⟩;rw[if_neg (by omega),if_pos h2,if_neg h3,if_neg (by omega),if_neg (by omega),if_neg (by omega),if_neg (by omega),if_pos (by omega)]
 obtain⟨h5,h6⟩:=g3 ⟨by omega,by omega⟩;have n1:¬ e=2047:=by omega
 have n2:¬ e=0:=by omega
 rw[if_neg h1,if_neg h2,if_neg n1,if_neg n2]
 by_cases h7:143≤x
 ·have p1:¬ (113≤x∧x≤142):=by omega
  have p2:¬ (103≤x∧x<113):=by omega
  have p3:1023+31≤e+15:=by omega
  rw[if_neg p1,if_neg p2,if_pos p3]
 have p3:¬ (1023+31≤e+15):=by omega
 by_cases h8:113≤x
 ·have p1:113≤x∧x≤142:=by omega
  have p4:1023<e+15:=by omega
  rw[if_pos p1,if_neg p3,if_pos p4]
  by_cases h9:f%8192=0
  ·have p5:m%4398046511104=0:=by omega
   rw[if_pos h9,if_pos p5];obtain⟨q,rfl⟩:∃ q,f=8192*q:=⟨f/8192,by omega⟩
   have z1:m/4398046511104=8192*q/8192:=by omega
   have z2:e+15-1023=x-112:=by omega
   rw[z1,z2]
  have p5:¬ m%4398046511104=0:=by omega
  rw[if_neg h9,if_neg p5]
 have p1:¬ (113≤x∧x≤142):=by omega
 have p4:¬ 1023<e+15:=by omega
 rw[if_neg p1,if_neg p3,if_neg p4]
 by_cases h9:103≤x
 ·have p2:103≤x∧x<113:=by omega
  have p6:¬ 52<43+(1023-e-15):=by omega
  rw[if_pos p2,if_neg p6];have hs:43+(1023-e-15)=126-x+29:=by omega
  have hq:m+4503599627370496=(f+8388608)*2 ^ 29:=by simp only[Nat.reducePow];omega
  rw[hs,hq,Nat.pow_add,Nat.mul_mod_mul_right,Nat.mul_div_mul_right _ _ (Nat.two_pow_pos 29)]
  by_cases Pf:(f+8388608)%2 ^ (126-x)=0
  ·have Lv:(f+8388608)%2 ^ (126-x)*2 ^ 29=0:=by rw[Pf,Nat.zero_mul]
   rw[if_pos Pf,if_pos Lv]
  have Lv:¬ (f+8388608)%2 ^ (126-x)*2 ^ 29=0:=by
   intro h
   have:=Nat.two_pow_pos 29
   rcases Nat.mul_eq_zero.1 h with h | h <;> omega
  rw[if_neg Pf,if_neg Lv]
 have p2:¬ (103≤x∧x<113):=by omega
 have p6:52<43+(1023-e-15):=by omega
 rw[if_neg p2,if_pos p6]
def beN (l:List UInt8):Nat:=l.foldl (fun x c=>x*256+c.toNat) 0
theorem SF (l:List UInt8) (c:UInt8):beN (l++[c])=beN l*256+c.toNat:=by simp[beN]
theorem rS (l:List UInt8):beN l<256 ^ l.length:=by
 suffices h:∀ (l:List UInt8) (a:Nat),l.foldl (fun x c=>x*256+c.toNat) a<(a+1)*256 ^ l.length by
  have:=h l 0;rw[Nat.zero_add,Nat.one_mul]at this
  exact this
 intro l
 induction l with
 | nil=>intro a;simp
 | cons c l ih =>
 intro a
 have hc:=c.toNat_lt;rw[List.foldl_cons,List.length_cons,Nat.pow_succ]
 refine Nat.lt_of_lt_of_le (ih _) ?_
 have:(a*256+c.toNat+1)*256 ^ l.length≤((a+1)*256)*256 ^ l.length:=Nat.mul_le_mul_right _ (by omega);rw[Nat.mul_assoc,Nat.mul_comm 256]at this
 exact this
theorem uf {c:UInt8}{n:Nat}(h:n%256=c.toNat):u8 n=c:=by
 apply UInt8.toNat_inj.1
 rw[re,h]
theorem PW {l:List UInt8}(h:l.length=1):∃ a,l=[a]:=by
 match l,h with
 | [a],_=>exact⟨a,rfl⟩
theorem PX {l:List UInt8}(h:l.length=2):∃ a b,l=[a,b]:=by
 match l,h with
 | [a,b],_=>exact⟨a,b,rfl⟩
theorem TR {l:List UInt8}(h:l.length=4):∃ a b c d,l=[a,b,c,d]:=by
 match l,h with
 | [a,b,c,d],_=>exact⟨a,b,c,d,rfl⟩
theorem Jz {l:List UInt8}(h:l.length=8):∃ a b c d e f g i,l=[a,b,c,d,e,f,g,i]:=by
 match l,h with
 | [a,b,c,d,e,f,g,i],_=>exact⟨a,b,c,d,e,f,g,i,rfl⟩
theorem KZ (a:UInt8):beN [a]=a.toNat:=by simp[beN]
theorem Ka (a b:UInt8):beN [a,b]=a.toNat*256+b.toNat:=by simp[beN]
theorem Kc (a b c d:UInt8):beN [a,b,c,d]=a.toNat*16777216+b.toNat*65536+c.toNat*256+d.toNat:=by simp[beN];omega
theorem Fi (a b c d e f g i:UInt8):beN [a,b,c,d,e,f,g,i]=a.toNat*72057594037927936+b.toNat*281474976710656+c.toNat*1099511627776+d.toNat*4294967296+e.toNat*16777216+f.toNat*65536+g.toNat*256+i.toNat:=by simp[beN];omega
theorem WY {l:List UInt8}(h:l.length=8):be8 (beN l) 8=l:=by
 obtain⟨a,b,c,d,e,f,g,i,rfl⟩:=Jz h;have ha:=a.toNat_lt;have hb:=b.toNat_lt;have hc:=c.toNat_lt;have hd:=d.toNat_lt;have he:=e.toNat_lt;have hf:=f.toNat_lt;have hg:=g.toNat_lt;have hi:=i.toNat_lt
 rw[Fi]
 simp only[be8,Nat.reducePow,Nat.reduceMul,Nat.reduceSub,List.nil_append,List.cons_append]
 rw[uf (c:=a) (by omega),uf (c:=b) (by omega),uf (c:=c) (by omega),uf (c:=d) (by omega),uf (c:=e) (by omega),uf (c:=f) (by omega),uf (c:=g) (by omega),uf (c:=i) (by omega)]
def zJ:List UInt8→Except Nat (Nat×Nat×Nat)
 | []=>.error 2
 | f::t =>
 if 27<f.toNat%32 then .error 3
 else if f.toNat%32<24 then .ok (f.toNat,f.toNat%32,1)
 else if t.length<2 ^ (f.toNat%32-24) then .error 2
 else if f.toNat/32<7∧(zF 0 (beN (t.take (2 ^ (f.toNat%32-24))))).length≠1+2 ^ (f.toNat%32-24) then .error 4
 else .ok (f.toNat,beN (t.take (2 ^ (f.toNat%32-24))),1+2 ^ (f.toNat%32-24))
def wS (v:Nat):Nat :=
 if v/1024%32=31 then v/32768*9223372036854775808+9218868437227405312+v%1024*4398046511104
 else if v/1024%32=0 then(if v%1024=0 then v/32768*9223372036854775808 else v/32768*9223372036854775808+(999+(v%1024).log2)*4503599627370496+(v%1024*2 ^ (52-(v%1024).log2)-4503599627370496))
 else v/32768*9223372036854775808+(v/1024%32+1008)*4503599627370496+v%1024*4398046511104
def vK (v:Nat):Nat :=
 if v/8388608%256=255 then v/2147483648*9223372036854775808+9218868437227405312+v%8388608*536870912
 else if v/8388608%256=0 then(if v%8388608=0 then v/2147483648*9223372036854775808 else v/2147483648*9223372036854775808+(874+(v%8388608).log2)*4503599627370496+(v%8388608*2 ^ (52-(v%8388608).log2)-4503599627370496))
 else v/2147483648*9223372036854775808+(v/8388608%256+896)*4503599627370496+v%8388608*536870912
def uN (low n:Nat):Nat:=if low=25 then wS n else if low=26 then vK n else n
def yL (low n:Nat):Except Nat Itm :=
 if low<24 then .ok (.mk 7 n [] [])
 else if low=24 then(if n<32 then .error 4 else .ok (.mk 7 n [] []))
 else if(isNaN (uN low n)&&uN low n != ym)||(zO (uN low n)).length != 1+2 ^ (low-24) then .error 4
 else .ok (.mk 8 (uN low n) [] [])
inductive PL where
 | err (e:Nat)
 | ok (l:List Itm) (k c:Nat)
inductive PR where
 | err (e:Nat)
 | ok (x:Itm) (k c:Nat)
def uw (p:List UInt8→Nat→PR):Nat→List UInt8→Nat→PL
 | 0,_,c=>.ok [] 0 c
 | n+1,b,c=>match p b c with
  | .err e=>.err e
  | .ok x k c'=>match uw p n (b.drop k) c' with
   | .err e=>.err e
   | .ok l k' c''=>.ok (x::l) (k+k') c''
def rn (last:Option (List UInt8)) (key:List UInt8):Option Nat :=
 match last with
 | none=>none
 | some l=>if Lib.compareBytes key l=0 then some 7 else if Lib.compareBytes key l<0 then some 6 else none
def vX (p:List UInt8→Nat→PR):Nat→List UInt8→Nat→Option (List UInt8)→PL
 | 0,_,c,_=>.ok [] 0 c
 | n+1,b,c,last=>match p b c with
  | .err e=>.err e
  | .ok x k c'=>match rn last (b.take k) with
   | some e=>.err e
   | none=>match p (b.drop k) c' with
    | .err e=>.err e
    | .ok y k' c''=>match vX p n (b.drop (k+k')) c'' (some (b.take k)) with
     | .err e=>.err e
     | .ok l k'' c3=>.ok (x::y::l) (k+k'+k'') c3
def zZ:Nat→List UInt8→Nat→PR
 | d,b,c =>
 if 256≤c then .err 8
 else match zJ b with
  | .error e=>.err e
  | .ok (f,n,k) =>
  if f/32≤1 then .ok (.mk (f/32:Nat) n [] []) k (c+1)
  else if f/32≤3 then
   (if b.length<k+n then .err 2
   else if f/32=3∧Lib.validD ((b.drop k).take n)=false then .err 5
   else .ok (.mk (f/32:Nat) 0 ((b.drop k).take n) []) (k+n) (c+1))
  else if f/32=7 then
   (match yL (f%32) n with
   | .error e=>.err e
   | .ok x=>.ok x k (c+1))
  else match d with
   | 0=>.err 8
   | d+1 =>
   if f/32=6 then(match zZ d (b.drop k) (c+1) with
    | .err e=>.err e
    | .ok x k' c'=>.ok (.mk 6 n [] [x]) (k+k') c')
   else if f/32=5 then(match vX (zZ d) n (b.drop k) (c+1) none with
    | .err e=>.err e
    | .ok l k' c'=>.ok (.mk 5 0 [] l) (k+k') c')
   else(match uw (zZ d) n (b.drop k) (c+1) with
    | .err e=>.err e
    | .ok l k' c'=>.ok (.mk 4 0 [] l) (k+k') c')
theorem Xk {m low:Nat}(xN:24≤low∧low≤27) {t:List UInt8}(ht:t.length=2 ^ (low-24)) (h:(zF 0 (beN t)).length=1+2 ^ (low-24)):zF m (beN t)=u8 (m*32+low)::t:=by
 rw[vh]at h
 rcases(by omega:low=24∨low=25∨low=26∨low=27) with rfl | rfl | rfl | rfl
 ·obtain⟨a,rfl⟩:=PW (by simpa using ht);have:=a.toNat_lt;rw[KZ]at h⊢;rw[qq]
  have h1:24≤a.toNat:=by
   exact jcI
  simp only[sU,qM,show ¬ a.toNat<24 by omega,show a.toNat<256 by omega,if_true,if_false]
  rw[uf (n:=a.toNat) (c:=a) (by omega)]
 ·obtain⟨a,b,rfl⟩:=PX (by simpa using ht);have ha:=a.toNat_lt;have hb:=b.toNat_lt
  rw[Ka]at h⊢;obtain⟨q,hq⟩:∃ q,a.toNat*256+b.toNat=q:=⟨_,rfl⟩
  rw[hq]at h⊢
  have h1:256≤q:=by
   exact jcI
  rw[qq]
  simp only[sU,qM,show ¬ q<24 by omega,show ¬ q<256 by omega,show q<65536 by omega,if_true,if_false]
  rw[uf (n:=q/256) (c:=a) (by omega),uf (n:=q) (c:=b) (by omega)]
 ·obtain⟨a,b,c,d,rfl⟩:=TR (by simpa using ht);have ha:=a.toNat_lt;have hb:=b.toNat_lt;have hc:=c.toNat_lt;have hd:=d.toNat_lt
  rw[Kc]at h⊢;obtain⟨q,hq⟩:∃ q,a.toNat*16777216+b.toNat*65536+c.toNat*256+d.toNat=q:=⟨_,rfl⟩
  rw[hq]at h⊢
  have h1:65536≤q:=by
   exact jcI
  rw[qq]
  simp only[sU,qM,show ¬ q<24 by omega,show ¬ q<256 by omega,show ¬ q<65536 by omega,show q<4294967296 by omega,if_true,if_false]
  rw[uf (n:=q/16777216) (c:=a) (by omega),uf (n:=q/65536) (c:=b) (by omega),uf (n:=q/256) (c:=c) (by omega),uf (n:=q) (c:=d) (by omega)]
 have h1:4294967296≤beN t:=by
  exact jcI
 rw[qq]
 simp only[sU,qM,show ¬ beN t<24 by omega,show ¬ beN t<256 by omega,show ¬ beN t<65536 by omega,show ¬ beN t<4294967296 by omega,if_false]
 rw[WY (by simpa using ht)]
structure HeadIs (b:List UInt8) (f n k:Nat):Prop where
 le:k≤b.length
 pos:0<k
 f_lt:f<256
 low:f%32≤27
 small:f%32<24→n=f%32∧k=1∧b.take k=[u8 f]
 wide:24≤f%32→k=1+2 ^ (f%32-24)∧∃ t,t.length=2 ^ (f%32-24)∧b.take k=u8 f::t∧n=beN t
 n_lt:n<18446744073709551616
 enc:f/32<7→zF (f/32) n=b.take k
theorem wP {b:List UInt8}{f n k:Nat}(h:zJ b=.ok (f,n,k)):HeadIs b f n k:=by
 cases b with
 | nil=>cases h
 | cons g t =>
 have hg:=g.toNat_lt
 simp only[zJ]at h
 split at h
 ·cases h
 rename_i q1
 split at h
 ·rename_i q2
  injection h with h
  simp only[Prod.mk.injEq]at h
  obtain⟨rfl,rfl,rfl⟩:=h;have hu:u8 g.toNat=g:=uf (by omega)
  refine⟨by simp,by omega,hg,by omega,fun _=>⟨rfl,rfl,by simp[hu]⟩,fun h=>by omega,by omega,fun h7=>?_⟩
  rw[qq]
  simp only[sU,qM,q2,if_true]
  rw[show g.toNat/32*32+g.toNat%32=g.toNat by omega,hu]
  simp
 rename_i q2
 split at h
 ·cases h
 rename_i q3
 split at h
 ·cases h
 rename_i q4
 injection h with h
 simp only[Prod.mk.injEq]at h
 obtain⟨rfl,rfl,rfl⟩:=h;have hu:u8 g.toNat=g:=uf (by omega);obtain⟨low,xN⟩:∃ low,g.toNat%32=low:=⟨_,rfl⟩
 rw[xN]at q1 q2 q3 q4⊢
 have hz:2 ^ (low-24)≤8:=by
  rcases(by omega:low=24∨low=25∨low=26∨low=27) with rfl | rfl | rfl | rfl <;> decide
 have Mf:(t.take (2 ^ (low-24))).length=2 ^ (low-24):=by rw[List.length_take];omega
 have ht:(g::t).take (1+2 ^ (low-24))=g::t.take (2 ^ (low-24)):=by rw[Nat.add_comm,List.take_succ_cons]
 refine⟨by rw[List.length_cons];omega,by omega,hg,by omega,fun h=>by omega,fun _=>⟨by rw[xN],_,by rw[xN];exact Mf,by rw[ht,hu],rfl⟩, ?_,fun h7=>?_⟩
 ·refine Nat.lt_of_lt_of_le (rS _) ?_
  rw[Mf]
  exact Nat.pow_le_pow_right (n:=256) (by omega) hz
 rw[ht,Xk (low:=low) (by omega) Mf (by
  rcases Nat.lt_or_ge 0 1 with _ | _
  ·exact Classical.byContradiction fun h=>q4 ⟨h7,h⟩
  exact absurd ‹1≤0› (by omega)),show g.toNat/32*32+low=g.toNat by omega,hu]
theorem rJ {n s e m:Nat}(h:n=s*9223372036854775808+e*4503599627370496+m) (hs:s≤1) (he:e<2048) (hm:m<4503599627370496) :
  n/4503599627370496%2048=e∧n%4503599627370496=m∧n/9223372036854775808=s:=by subst h;refine⟨?_, ?_, ?_⟩ <;> omega
theorem ZZ {n v s x f:Nat}(h:av n v s x f):yz n 5 10=some v:=by
 obtain⟨a1,a2,a3,a4,h⟩:=h
 rcases h with ⟨h1,h2,h3⟩ | ⟨h1,h2,h3⟩ | ⟨h1,h2,h3⟩ | ⟨h1,t,full,h2,h3,h4,h5,h6,h7⟩
 ·obtain⟨k1,k2,k3⟩:=rJ (n:=n) (s:=s) (e:=2047) (m:=0) (by rw[h3]) a1 (by omega) (by omega);rw[yz]
  simp only[Nat.reducePow,Nat.reduceSub,Nat.reduceAdd,Nat.reduceMul]
  rw[k1,k2,k3,if_pos rfl,if_pos rfl];congr 1;omega
 ·obtain⟨k1,k2,k3⟩:=rJ (n:=n) (s:=s) (e:=0) (m:=0) (by rw[h3,Nat.zero_mul,Nat.add_zero]) a1 (by omega) (by omega);rw[yz]
  simp only[Nat.reducePow,Nat.reduceSub,Nat.reduceAdd,Nat.reduceMul]
  rw[k1,k2,k3,if_neg (by omega),if_pos rfl,if_pos rfl];congr 1;omega
 ·obtain⟨k1,k2,k3⟩:=rJ (n:=n) (s:=s) (e:=x+1008) (m:=f*4398046511104) (by omega) a1 (by omega) (by omega);rw[yz]
  simp only[Nat.reducePow,Nat.reduceSub,Nat.reduceAdd,Nat.reduceMul]
  rw[k1,k2,k3];exact jcO
 have e2:2 ^ (t+1)*2 ^ (52-t)=9007199254740992:=by
  exact jbC
 have b2:=Nat.mul_lt_mul_of_pos_right h4 (Nat.two_pow_pos (52-t));rw[e2,← h5]at b2;obtain⟨k1,k2,k3⟩:=rJ (n:=n) (s:=s) (e:=999+t) (m:=full-4503599627370496) h7 a1 (by omega) (by omega);rw[yz]
 simp only[Nat.reducePow,Nat.reduceSub,Nat.reduceAdd,Nat.reduceMul]
 rw[k1,k2,k3];rw[if_neg (by omega),if_neg (by omega),if_neg (by omega),if_neg (by omega),if_neg (by omega),show 43+(1023-(999+t)-15)=52-t by omega,show full-4503599627370496+4503599627370496=full by omega,h5,if_pos (Nat.mul_mod_left _ _),Nat.mul_div_cancel _ (Nat.two_pow_pos _)];congr 1;omega
theorem pS {f t:Nat}(h1:2 ^ t≤f) (h2:f<2 ^ (t+1)) (ht:t≤52):4503599627370496≤f*2 ^ (52-t)∧f*2 ^ (52-t)<9007199254740992:=by
 have e1:2 ^ t*2 ^ (52-t)=4503599627370496:=by
  exact jcG
 have e2:2 ^ (t+1)*2 ^ (52-t)=9007199254740992:=by
  exact jbC
 have b1:=Nat.mul_le_mul_right (2 ^ (52-t)) h1;have b2:=Nat.mul_lt_mul_of_pos_right h2 (Nat.two_pow_pos (52-t))
 omega
theorem p9 {v:Nat}(hv:v<65536) (hn:¬ (v/1024%32=31∧v%1024≠0)):av (wS v) v (v/32768) (v/1024%32) (v%1024)∧wS v<18446744073709551616:=by
 obtain⟨s,hs⟩:∃ s,v/32768=s:=⟨_,rfl⟩
 obtain⟨x,hx⟩:∃ x,v/1024%32=x:=⟨_,rfl⟩
 obtain⟨f,hf⟩:∃ f,v%1024=f:=⟨_,rfl⟩
 have wu:s≤1:=by omega
 have ph:x≤31:=by omega
 have ez:f<1024:=by omega
 have WP:v=s*32768+x*1024+f:=by omega
 rw[hx,hf]at hn;rw[wS,hs,hx,hf];clear hs hx hf
 by_cases h1:x=31
 ·exact jcJ
 rw[if_neg h1]
 by_cases h2:x=0
 ·rw[if_pos h2]
  by_cases h0:f=0
  ·exact jdl
  rw[if_neg h0];obtain⟨a1,a2⟩:=jhv;have a3:f.log2<10:=(Nat.log2_lt h0).2 (by simpa using ez)
  exact jbF
 exact jcT
theorem pA {v:Nat}(hv:v<4294967296) (hn:¬ (v/8388608%256=255∧v%8388608≠0)):qI (vK v) v (v/2147483648) (v/8388608%256) (v%8388608)∧vK v<18446744073709551616:=by
 obtain⟨s,hs⟩:∃ s,v/2147483648=s:=⟨_,rfl⟩
 obtain⟨x,hx⟩:∃ x,v/8388608%256=x:=⟨_,rfl⟩
 obtain⟨f,hf⟩:∃ f,v%8388608=f:=⟨_,rfl⟩
 have wu:s≤1:=by omega
 have ph:x≤255:=by omega
 have ez:f<8388608:=by omega
 have WP:v=s*2147483648+x*8388608+f:=by omega
 rw[hx,hf]at hn;rw[vK,hs,hx,hf];clear hs hx hf
 by_cases h1:x=255
 ·exact jcJ
 rw[if_neg h1]
 by_cases h2:x=0
 ·rw[if_pos h2]
  by_cases h0:f=0
  ·exact jdl
  rw[if_neg h0];obtain⟨a1,a2⟩:=jhv;have a3:f.log2<23:=(Nat.log2_lt h0).2 (by simpa using ez)
  exact jbF
 exact jcT
theorem TU {n s m:Nat}(h:n=s*9223372036854775808+2047*4503599627370496+m) (hs:s≤1) (hm:m<4503599627370496) (h0:m≠0):isNaN n=true:=by
 obtain⟨k1,k2,_⟩:=rJ h hs (by omega) hm;rw[isNaN]
 simp only[Nat.reducePow,k1,k2]
 simp[h0]
theorem tA {n e m s:Nat}(h:n=s*9223372036854775808+e*4503599627370496+m) (hs:s≤1) (he:e≤2047) (hm:m<4503599627370496) (h0:e=2047→m=0):isNaN n=false:=by
 obtain⟨k1,k2,_⟩:=rJ h hs (by omega) hm;rw[isNaN]
 simp only[Nat.reducePow,k1,k2]
 rcases Nat.lt_or_ge e 2047 with h' | h'
 ·have:(e==2047)=false:=by simp;omega
  rw[this];rfl
 rw[h0 (by omega)];simp
theorem kT {n v s x f:Nat}(h:av n v s x f):isNaN n=false:=by
 obtain⟨a1,a2,a3,a4,h⟩:=h
 rcases h with ⟨h1,h2,h3⟩ | ⟨h1,h2,h3⟩ | ⟨h1,h2,h3⟩ | ⟨h1,t,full,h2,h3,h4,h5,h6,h7⟩
 ·exact jdp
 ·exact jcR
 ·exact tA (s:=s) (e:=x+1008) (m:=f*4398046511104) (by omega) a1 (by omega) (by omega) (fun h=>by omega)
 have b:=pS h3 h4 (by omega);rw[← h5]at b
 exact tA (s:=s) (e:=999+t) (m:=full-4503599627370496) h7 a1 (by omega) (by omega) (fun h=>by omega)
theorem kU {n v s x f:Nat}(h:qI n v s x f):isNaN n=false:=by
 obtain⟨a1,a2,a3,a4,h⟩:=h
 rcases h with ⟨h1,h2,h3⟩ | ⟨h1,h2,h3⟩ | ⟨h1,h2,h3⟩ | ⟨h1,t,full,h2,h3,h4,h5,h6,h7⟩
 ·exact jdp
 ·exact jcR
 ·exact tA (s:=s) (e:=x+896) (m:=f*536870912) (by omega) a1 (by omega) (by omega) (fun h=>by omega)
 have b:=pS h3 h4 (by omega);rw[← h5]at b
 exact tA (s:=s) (e:=874+t) (m:=full-4503599627370496) h7 a1 (by omega) (by omega) (fun h=>by omega)
theorem fq {v:Nat}(hv:v<65536) (h:v/1024%32=31∧v%1024≠0):isNaN (wS v)=true∧(wS v=ym↔v=32256):=by
 obtain⟨h1,h2⟩:=h;have e:wS v=v/32768*9223372036854775808+2047*4503599627370496+v%1024*4398046511104:=by rw[wS,if_pos h1]
 refine⟨TU e (by omega) (by omega) (by omega), ?_⟩
 rw[e,ym]
 omega
theorem fr {v:Nat}(hv:v<4294967296) (h:v/8388608%256=255∧v%8388608≠0):isNaN (vK v)=true:=by
 obtain⟨h1,h2⟩:=h;have e:vK v=v/2147483648*9223372036854775808+2047*4503599627370496+v%8388608*536870912:=by rw[vK,if_pos h1]
 exact TU e (by omega) (by omega) (by omega)
theorem tH {n:Nat}(h:isNaN n=true):zO n=[u8 249,u8 126,u8 0]:=by rw[zO,if_pos h]
theorem jD {n:Nat}(h:isNaN n=false):(zO n).length=(if(yz n 5 10).isSome then 3 else if(yz n 8 23).isSome then 5 else 9):=by
 rw[zO,if_neg (by simp[h])]
 cases yz n 5 10 with
 | some v=>rfl
 | none=>cases yz n 8 23 with
  | some v=>rfl
  | none=>simp[uv]
theorem Xe {low n f:Nat}(hl:25≤low∧low≤27) {t:List UInt8}(ht:t.length=2 ^ (low-24)) (hn:n=beN t) (hf:f=uN low n)
  (h1:¬ (isNaN f=true∧f≠ym)) (h2:(zO f).length=1+2 ^ (low-24)):zO f=u8 (7*32+low)::t∧f<18446744073709551616:=by
 rcases(by omega:low=25∨low=26∨low=27) with rfl | rfl | rfl
 ·obtain⟨a,b,rfl⟩:=PX (by simpa using ht);have ha:=a.toNat_lt;have hb:=b.toNat_lt
  rw[Ka]at hn;have hv:n<65536:=by omega
  rw[uN,if_pos rfl]at hf
  by_cases hx:n/1024%32=31∧n%1024≠0
  ·obtain⟨q1,q2⟩:=fq hv hx;rw[← hf]at q1 q2;have iq:f=ym:=Classical.byContradiction fun h=>h1 ⟨q1,h⟩
   have rY:=q2.1 iq;rw[tH q1]
   refine⟨?_,by rw[iq];decide⟩
   rw[uf (n:=126) (c:=a) (by omega),uf (n:=0) (c:=b) (by omega)]
  obtain⟨q1,q2⟩:=p9 hv hx;rw[← hf]at q1 q2
  refine⟨?_,q2⟩
  rw[zO,if_neg (by rw[kT q1];simp),ZZ q1]
  simp only
  rw[uf (n:=n/256) (c:=a) (by omega),uf (n:=n) (c:=b) (by omega)]
 ·obtain⟨a,b,c,d,rfl⟩:=TR (by simpa using ht);have ha:=a.toNat_lt;have hb:=b.toNat_lt;have hc:=c.toNat_lt;have hd:=d.toNat_lt
  rw[Kc]at hn;have hv:n<4294967296:=by omega
  rw[uN,if_neg (by omega),if_pos rfl]at hf
  by_cases hx:n/8388608%256=255∧n%8388608≠0
  ·have q1:=fr hv hx;rw[← hf]at q1;rw[tH q1]at h2
   simp at h2
  obtain⟨q1,q2⟩:=pA hv hx;rw[← hf]at q1 q2
  refine⟨?_,q2⟩
  have q3:=kU q1;have q4:=nu q1;rw[jD q3,q4]at h2
  have q5:yz f 5 10=none:=by
   exact jdQ
  rw[zO,if_neg (by rw[q3];simp),q5,q4]
  simp only
  rw[uf (n:=n/16777216) (c:=a) (by omega),uf (n:=n/65536) (c:=b) (by omega),uf (n:=n/256) (c:=c) (by omega),uf (n:=n) (c:=d) (by omega)]
 have FO:t.length=8:=by simpa using ht
 have hb:=rS t;rw[FO,← hn]at hb;rw[uN,if_neg (by omega),if_neg (by omega)]at hf;subst hf
 refine⟨?_,by omega⟩
 cases q3:isNaN f with
 | true =>
  rw[tH q3]at h2
  simp at h2
 | false =>
 rw[jD q3]at h2
 have q5:yz f 5 10=none:=by
  exact jdQ
 have q6:yz f 8 23=none:=by
  cases h:yz f 8 23 with
  | none=>rfl
  | some v=>rw[h,q5]at h2;simp at h2
 rw[zO,if_neg (by rw[q3];simp),q5,q6]
 simp only
 rw[hn,WY FO]
theorem qn {low n:Nat}{x:Itm}(hl:low≤27) {t:List UInt8}(tZ:low<24→n=low∧t=[]) (hw:24≤low→t.length=2 ^ (low-24)∧n=beN t) (h:yL low n=.ok x) :
  zf x=u8 (7*32+low)::t∧(∀ lv,Good x lv)∧x.n<18446744073709551616∧x.items=[]∧cnt x=1:=by
 rw[yL]at h
 have good7:∀ (n:Nat),(n<24∨32≤n∧n<256)→∀ lv,Good (.mk 7 n [] []) lv:=fun n hn lv=>by
  rw[Good]
  refine⟨?_, ?_,fun h=>by omega⟩
  ·rw[y9,if_pos (by simp[yx,Itm.kind])]
   rcases hn with hn | ⟨h1,h2⟩ <;> simp[zH,Itm.kind,Itm.n,Itm.bytes,Itm.items, *]
  rw[GoodL];trivial
 split at h
 ·rename_i q1
  injection h with h
  subst h;obtain⟨rfl,rfl⟩:=tZ q1
  refine⟨?_,good7 _ (.inl q1),by simp only[Itm.n];omega,rfl,by simp[cnt,xM]⟩
  rw[xu,if_neg (by simp[Itm.kind]),if_neg (by simp[Itm.n];omega)];have e:numP (.mk 7 n [] [])=n:=by simp[numP,Itm.kind,Itm.n]
  rw[e,zF,if_pos q1]
  simp[Itm.bytes,Itm.items,Itm.kind,zG]
 split at h
 ·rename_i q1 q2
  subst q2
  split at h
  ·cases h
  rename_i q3
  injection h with h
  subst h;obtain⟨ht,hn⟩:=hw (by omega);obtain⟨a,rfl⟩:=PW (by simpa using ht);have ha:=a.toNat_lt;rw[KZ]at hn
  refine⟨?_,good7 _ (.inr (by omega)),by simp only[Itm.n];omega,rfl,by simp[cnt,xM]⟩
  rw[xu,if_neg (by simp[Itm.kind]),if_pos (by simp[Itm.n,Itm.kind];omega)]
  simp only[Itm.n]
  rw[uf (n:=n) (c:=a) (by omega)]
 rename_i q1 q2
 split at h
 ·cases h
 rename_i q3
 injection h with h
 subst h;obtain⟨ht,hn⟩:=hw (by omega)
 simp only[Bool.or_eq_true,Bool.and_eq_true,bne_iff_ne,ne_eq,not_or]at q3
 obtain⟨q3,q4⟩:=q3;have q4':=Classical.not_not.1 q4;obtain⟨e,he⟩:=Xe (low:=low) (n:=n) (by omega) ht hn rfl q3 q4'
 refine⟨?_,fun lv=>?_,he,rfl,by simp[cnt,xM]⟩
 ·rw[xu,if_pos (by simp[Itm.kind])]
  exact e
 rw[Good]
 refine⟨?_,by rw[GoodL];trivial,fun h=>by omega⟩
 rw[y9,if_pos (by simp[yx,Itm.kind])]
 simp[zH,Itm.kind,Itm.n,Itm.bytes,Itm.items]
 cases hN:isNaN (uN low n) with
 | false=>exact .inl rfl
 | true=>exact .inr (Classical.byContradiction fun h=>q3 ⟨hN,h⟩)
end Go.Proofs.YtgaoknihklmakabGreatDoor
