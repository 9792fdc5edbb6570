/- squeezed. Walks: the references' Raw. Walks: -/
import Derived.Test.YtgcjjhibdbafmabGreatDoorK01
import Derived.Laws.Externs
import Derived.Laws.FloatArith
import Derived.Shelf.Unicode.ValidAny
import Derived.Deep.QuietTactic
set_option linter.unusedVariables false
set_option linter.unusedSimpArgs false
set_option maxRecDepth 100000
set_option maxHeartbeats 8000000
namespace Go.Proofs.YtgcjjhibdbafmabGreatDoor
open Go.RowKit
theorem ItemA.eqs_ {H:Snap}{k n:Int}{ba:Option Addr}{bl bc:Nat}{ia:Option Addr}{il ic:Nat}{x:Itm}(h:ItemA H k n ba bl bc ia il ic x):k=x.kind∧n=(x.n:Int)∧bl=x.bytes.length∧il=x.items.length∧IsItem H ba bc ia ic x:=⟨h.1,h.2,h.3,h.4,h.5⟩
theorem Fresh.step {w w1 w2:World}{l:List UInt8}{r:Value}(hb:Below w.heap.size w w1) (h:Fresh w1 l r w2):Fresh w l r w2:=⟨h.own.more hb.size,hb.trans (h.2.mono hb.size)⟩
theorem Fresh.litAt (w:World) (l:List UInt8) (cs:Array Value) (k b:Nat) (hb:b=w.heap.size) (hk:k=l.length) (hm:l.length≤4096) (hc:cs.toList=l.map zI) :
  Fresh w l (.slice (some ⟨b,0,none⟩) k k) (w.alloc (.cells cs 5)):=by
 subst hb
 exact Fresh.lit w l cs k hk hm hc
def kP (x:Itm):Prop:=∀ (H:Snap) (k n:Int) (ba:Option Addr) (bl bc:Nat) (ia:Option Addr) (il ic:Nat) (w:World) (lv:Nat),
 Good x lv→(zZ x).length≤1099511627776→ItemA H k n ba bl bc ia il ic x→Holds w H→
 Calls Tryz.prog 38 #[.agg #[.int .i64 k,.int .u64 n,.slice ba bl bc,.slice ia il ic]] w fun e w'=>∃ r,e=.returned r∧Fresh w (zZ x) r w'
theorem ZE {x:Itm}{lv:Nat}(h:Good x lv) (hk:x.kind=0∨x.kind=1):zZ x=zh x.kind.toNat x.n:=by
 have ho:=h.node
 rcases xT ho with ⟨h1,h2⟩ | ⟨h1,_⟩
 ·have hi:=(xz h1 h2).1;have hb:x.bytes=[]:=by simp[yy,hk]at h2;exact h2.1
  have hn:numP x=x.n:=by unfold numP;rcases hk with h | h <;> simp[h]
  rw[xh,if_neg (by omega),if_neg (by omega),hi,hb,yx,hn]
  simp
 rw[(zE x).2 (by omega)]at h1;cases h1
theorem Tj {x:Itm}{lv:Nat}(h:Good x lv) (hk:x.kind=2∨x.kind=3):zZ x=zh x.kind.toNat x.bytes.length++x.bytes:=by
 have ho:=h.node
 rcases xT ho with ⟨h1,h2⟩ | ⟨h1,_⟩
 ·have hi:=(xz h1 h2).1;have hn:numP x=x.bytes.length:=by unfold numP;rw[if_pos hk]
  rw[xh,if_neg (by omega),if_neg (by omega),hi,yx,hn]
  simp
 rw[(zE x).2 (by omega)]at h1;cases h1
theorem VW {x:Itm}{lv:Nat}(h:Good x lv) (hk:4≤x.kind∧x.kind≤6):zZ x=zh x.kind.toNat (numP x)++yx x.items:=by
 have ho:=h.node
 rcases xT ho with ⟨h1,_⟩ | ⟨_,h1⟩
 ·rw[zE]at h1;omega
 have hb:=(ww h1).2.2.2.1;rw[List.length_eq_zero_iff]at hb;rw[xh,if_neg (by omega),if_neg (by omega),hb]
 simp
theorem aB {x:Itm}{lv:Nat}(h:Good x lv) (hk:x.kind=7):zZ x=if x.n<24 then [u8 (224+x.n)] else [u8 248,u8 x.n]:=by
 have ho:=h.node
 rcases xT ho with ⟨h1,h2⟩ | ⟨h1,_⟩
 ·have hi:=xz h1 h2;have hn:numP x=x.n:=by unfold numP;simp[hk]
  by_cases te:x.n<24
  ·rw[if_pos te,xh,if_neg (by omega),if_neg (by omega),hi.1,hi.2 (by omega),yx,hn,zh,if_pos te,hk];rfl
  rw[if_neg te,xh,if_neg (by omega),if_pos ⟨hk,by omega⟩]
 rw[(zE x).2 (by omega)]at h1;cases h1
theorem WL {k:Int}(h:k=0):(k==0)=true∧(k==1)=false∧(k==2)=false∧(k==3)=false∧(k==4)=false∧(k==5)=false∧(k==6)=false∧(k==7)=false∧(k==8)=false:=by
 subst h;decide
theorem WM {k:Int}(h:k=1):(k==0)=false∧(k==1)=true∧(k==2)=false∧(k==3)=false∧(k==4)=false∧(k==5)=false∧(k==6)=false∧(k==7)=false∧(k==8)=false:=by
 subst h;decide
theorem WN {k:Int}(h:k=2):(k==0)=false∧(k==1)=false∧(k==2)=true∧(k==3)=false∧(k==4)=false∧(k==5)=false∧(k==6)=false∧(k==7)=false∧(k==8)=false:=by
 subst h;decide
theorem WO {k:Int}(h:k=3):(k==0)=false∧(k==1)=false∧(k==2)=false∧(k==3)=true∧(k==4)=false∧(k==5)=false∧(k==6)=false∧(k==7)=false∧(k==8)=false:=by
 subst h;decide
theorem WP {k:Int}(h:k=4):(k==0)=false∧(k==1)=false∧(k==2)=false∧(k==3)=false∧(k==4)=true∧(k==5)=false∧(k==6)=false∧(k==7)=false∧(k==8)=false:=by
 subst h;decide
theorem WR {k:Int}(h:k=5):(k==0)=false∧(k==1)=false∧(k==2)=false∧(k==3)=false∧(k==4)=false∧(k==5)=true∧(k==6)=false∧(k==7)=false∧(k==8)=false:=by
 subst h;decide
theorem WS {k:Int}(h:k=6):(k==0)=false∧(k==1)=false∧(k==2)=false∧(k==3)=false∧(k==4)=false∧(k==5)=false∧(k==6)=true∧(k==7)=false∧(k==8)=false:=by
 subst h;decide
theorem WT {k:Int}(h:k=7):(k==0)=false∧(k==1)=false∧(k==2)=false∧(k==3)=false∧(k==4)=false∧(k==5)=false∧(k==6)=false∧(k==7)=true∧(k==8)=false:=by
 subst h;decide
theorem WU {k:Int}(h:k=8):(k==0)=false∧(k==1)=false∧(k==2)=false∧(k==3)=false∧(k==4)=false∧(k==5)=false∧(k==6)=false∧(k==7)=false∧(k==8)=true:=by
 subst h;decide
section
variable (x:Itm) {H:Snap} {ba:Option Addr} {bc:Nat} {ia:Option Addr} {ic:Nat} (w:World) (lv:Nat)
theorem U7 (hk:x.kind=0∨x.kind=1) (hg:Good x lv) (hx:IsItem H ba bc ia ic x) :
  Calls Tryz.prog 38 #[xj x ba bc ia ic] w fun e w'=>∃ r,e=.returned r∧Fresh w (zZ x) r w':=by
 have E:Hid (zZ x=zh x.kind.toNat x.n):=ZE hg hk;have h0:0≤x.kind:=by omega
 have h8:x.kind<8:=by omega
 have HN:=Hh hx.bounds.2.2.1;have D:=Hh (yW x.kind (x.n:Int) (w.alloc (zS x ba bc ia ic)) h0 h8 (by omega) (by have:=HN.out;omega));have vL:=zi w (zS x ba bc ia ic);rw[Int.toNat_natCast]at D;clear hx hg h0 h8
 rcases hk with hk | hk
 ·obtain⟨b0,b1,b2,b3,b4,b5,b6,b7,b8⟩:=WL hk;clear hk;go_enter Tryz.func38,Tryz.ntmps38
  go_wp2_with fail
  refine D.out.mono ?_
  rintro e w1 ⟨r,rfl,hf⟩
  go_wp2_with fail
  go_ret
  exact⟨_,rfl,by rw[E.out];exact hf.step vL⟩
 obtain⟨b0,b1,b2,b3,b4,b5,b6,b7,b8⟩:=WM hk;clear hk;go_enter Tryz.func38,Tryz.ntmps38
 go_wp2_with fail
 refine D.out.mono ?_
 rintro e w1 ⟨r,rfl,hf⟩
 go_wp2_with fail
 go_ret
 exact⟨_,rfl,by rw[E.out];exact hf.step vL⟩
theorem ak (hk:x.kind=7) (hg:Good x lv) (hx:IsItem H ba bc ia ic x) :
  Calls Tryz.prog 38 #[xj x ba bc ia ic] w fun e w'=>∃ r,e=.returned r∧Fresh w (zZ x) r w':=by
 have E0:=aB hg hk;have HN:=Hh hx.bounds.2.2.1;have vL:=zi w (zS x ba bc ia ic);obtain⟨b0,b1,b2,b3,b4,b5,b6,b7,b8⟩:=WT hk;clear hx hg hk
 by_cases te:x.n<24
 ·rw[if_pos te]at E0;have E:=Hh E0;have hi:(x.n:Int)<24:=by omega
  clear E0;go_enter Tryz.func38,Tryz.ntmps38
  go_wp2_with fail
  go_ret
  refine⟨_,rfl, ?_⟩
  rw[E.out]
  refine(Fresh.litAt (w.alloc (zS x ba bc ia ic)) [u8 (224+x.n)] _ 1 _ (by simp) rfl (by simp) ?_).step vL
  simp only[List.map_cons,List.map_nil,wb]
  congr 2
  omega
 rw[if_neg te]at E0;have E:=Hh E0;have hi:¬ (x.n:Int)<24:=by omega
 clear E0;go_enter Tryz.func38,Tryz.ntmps38
 go_wp2_with fail
 go_ret
 refine⟨_,rfl, ?_⟩
 rw[E.out]
 refine(Fresh.litAt (w.alloc (zS x ba bc ia ic)) [u8 248,u8 x.n] _ 2 _ (by simp) rfl (by simp) ?_).step vL
 simp only[List.map_cons,List.map_nil,wb]
 simp
theorem YV (hk:x.kind=8) (hx:IsItem H ba bc ia ic x) :
  Calls Tryz.prog 38 #[xj x ba bc ia ic] w fun e w'=>∃ r,e=.returned r∧Fresh w (zZ x) r w':=by
 have E:Hid (zZ x=zK x.n):=by rw[Hid,xh,if_pos hk]
 have D:=Hh (pG x.n hx.bounds.2.2.1 (w.alloc (zS x ba bc ia ic)));have vL:=zi w (zS x ba bc ia ic);obtain⟨b0,b1,b2,b3,b4,b5,b6,b7,b8⟩:=WU hk;clear hx hk;go_enter Tryz.func38,Tryz.ntmps38
 go_wp2_with fail
 refine D.out.mono ?_
 rintro e w1 ⟨r,rfl,hf⟩
 go_wp2_with fail
 go_ret
 exact⟨_,rfl,by rw[E.out];exact hf.step vL⟩
theorem U8 (hk:x.kind=2∨x.kind=3) (hg:Good x lv) (hl:(zZ x).length≤1099511627776) (hx:IsItem H ba bc ia ic x) (hH:Holds w H) :
  Calls Tryz.prog 38 #[xj x ba bc ia ic] w fun e w'=>∃ r,e=.returned r∧Fresh w (zZ x) r w':=by
 have e0:=Tj hg hk;rw[e0,List.length_append]at hl;have E:=Hh e0;have h0:0≤x.kind:=by omega
 have h8:x.kind<8:=by omega
 have O9:x.bytes.length≤9223372036854775807:=by have:=hx.bounds;omega
 have QG:x.bytes.length<18446744073709551616:=by omega
 have HL:=Hh QG;have KW:IntKind.u64.wrap (x.bytes.length:Int)=(x.bytes.length:Int):=IntWalk.u64_in _ (by omega);have D:=fun w1:World=>yW x.kind (x.bytes.length:Int) w1 h0 h8 (by omega) (by have:=HL.out;omega)
 have vL:=(zi w (zS x ba bc ia ic)).drew;have hB:=Blk.new w 57 #[.int .i64 x.kind,.int .u64 x.n,.slice ba x.bytes.length bc,.slice ia x.items.length ic];have hB:=hB.drew;have hs:Src (w.alloc (zS x ba bc ia ic)).drew _ _:=(Src.of_row hx.bytes.row hH).alloc (zS x ba bc ia ic)
 simp only[Int.toNat_natCast]at D
 have DD:=Hh D;clear hg h0 h8 e0 hx D QG
 rcases hk with hk | hk
 ·obtain⟨b0,b1,b2,b3,b4,b5,b6,b7,b8⟩:=WN hk;clear hk;go_enter Tryz.func38,Tryz.ntmps38
  go_upto_region 9 with fail
  refine zr 10 (fun w'=>w'.cell? ⟨w.heap.size,0,none⟩=some (.int .i64 x.kind)∧w'.cell? ⟨w.heap.size,2,none⟩=some (.slice ba x.bytes.length bc)) (by kernel_rfl) (⟨hB.cell 0 rfl,hB.cell 2 rfl⟩) (fun zy=>?_)
  refine Tk 0 rfl zy ?_
  refine Tk 1 rfl zy ?_
  refine Tk 2 rfl zy ?_
  refine Tk 3 rfl zy ?_
  refine Tk 4 rfl zy ?_
  refine Tk 5 rfl zy ?_
  refine Tk 7 rfl zy ?_
  refine Tk 8 rfl zy ?_
  refine To 6 rfl fun K hK=>?_
  go_simp
  refine(DD.out _).mono ?_
  rintro e w1 ⟨r,rfl,hf⟩
  have ws:=hB.below hf.2;have vC:=hs.below hf.2;have wU:=vL.trans (hf.2.mono vL.size);have hz:=hf.2.size;obtain⟨RA,rc,rfl,_⟩:=hf.own.form
  refine Ko hK ?_ fun zy=>?_
  ·exact⟨ws.cell 0 rfl,ws.cell 2 rfl⟩
  clear hK K
  refine To 9 rfl fun K hK=>?_
  rw[if_pos (by rfl)]
  refine yV (.tmp 28) (.tmp 30) rfl w.heap.size _ _ rfl (hf.own.more vL.size) _ x.bytes.length _ x.bytes rfl rfl vC (by omega) wU.size fun v' w2 kz wa _=>?_
  have yU:=ws.grown wa (fun h=>by have:=(hf.own.lt _ h).1;simp at this;omega);have xJ:=wU.grown wa wU.size (fun q hq=>Nat.le_trans vL.size (hf.own.lt q hq).1)
  refine Ko hK ?_ fun zy=>?_
  ·exact⟨yU.cell 0 rfl,yU.cell 2 rfl⟩
  clear hK K
  refine To 10 rfl fun K hK=>?_
  go_simp
  refine Kz hK ?_
  clear hK K
  refine Wd ?_
  go_wp2_with fail
  go_ret
  exact⟨_,rfl,by rw[E.out];exact⟨kz,xJ⟩⟩
 obtain⟨b0,b1,b2,b3,b4,b5,b6,b7,b8⟩:=WO hk;clear hk;go_enter Tryz.func38,Tryz.ntmps38
 go_upto_region 9 with fail
 refine zr 10 (fun w'=>w'.cell? ⟨w.heap.size,0,none⟩=some (.int .i64 x.kind)∧w'.cell? ⟨w.heap.size,2,none⟩=some (.slice ba x.bytes.length bc)) (by kernel_rfl) (⟨hB.cell 0 rfl,hB.cell 2 rfl⟩) (fun zy=>?_)
 refine Tk 0 rfl zy ?_
 refine Tk 1 rfl zy ?_
 refine Tk 2 rfl zy ?_
 refine Tk 3 rfl zy ?_
 refine Tk 4 rfl zy ?_
 refine Tk 5 rfl zy ?_
 refine Tk 7 rfl zy ?_
 refine Tk 8 rfl zy ?_
 refine To 6 rfl fun K hK=>?_
 go_simp
 refine(DD.out _).mono ?_
 rintro e w1 ⟨r,rfl,hf⟩
 have ws:=hB.below hf.2;have vC:=hs.below hf.2;have wU:=vL.trans (hf.2.mono vL.size);have hz:=hf.2.size;obtain⟨RA,rc,rfl,_⟩:=hf.own.form
 refine Ko hK ?_ fun zy=>?_
 ·exact⟨ws.cell 0 rfl,ws.cell 2 rfl⟩
 clear hK K
 refine To 9 rfl fun K hK=>?_
 rw[if_pos (by rfl)]
 refine yV (.tmp 28) (.tmp 30) rfl w.heap.size _ _ rfl (hf.own.more vL.size) _ x.bytes.length _ x.bytes rfl rfl vC (by omega) wU.size fun v' w2 kz wa _=>?_
 have yU:=ws.grown wa (fun h=>by have:=(hf.own.lt _ h).1;simp at this;omega);have xJ:=wU.grown wa wU.size (fun q hq=>Nat.le_trans vL.size (hf.own.lt q hq).1)
 refine Ko hK ?_ fun zy=>?_
 ·exact⟨yU.cell 0 rfl,yU.cell 2 rfl⟩
 clear hK K
 refine To 10 rfl fun K hK=>?_
 go_simp
 refine Kz hK ?_
 clear hK K
 refine Wd ?_
 go_wp2_with fail
 go_ret
 exact⟨_,rfl,by rw[E.out];exact⟨kz,xJ⟩⟩
end
theorem Vy (x:Itm) (hk:4≤x.kind∧x.kind≤6) (ih:∀ y:Itm,cnt y<cnt x→kP y):kP x:=by
 intro H k n ba bl bc ia il ic w lv hg hl hx hH
 obtain⟨rfl,rfl,rfl,rfl,ot⟩:=hx.eqs_;have hx:=ot;have tr:=hx.bounds;have e0:=VW hg hk;rw[e0,List.length_append]at hl;have HL:=Hh hl;have HG:=Hh hg.items;have rT:=ww (show vx x lv=true by rcases xT hg.node with ⟨h1,_⟩ | ⟨_,h1⟩;(rw[zE]at h1;omega);exact h1);have hB:=Blk.new w 57 #[.int .i64 x.kind,.int .u64 x.n,.slice ba x.bytes.length bc,.slice ia x.items.length ic];have vL:=zi w (zS x ba bc ia ic);have bp:x.items.length≤9223372036854775807:=by omega
 have HX:=Hh hx;have HN:=Hh tr.2.2.1;clear hl tr rT hg hx
 have three:∃ (q m:Int) (hd:List UInt8) (D:Hid (∀ w1:World,Calls Tryz.prog 61 #[.int .i64 q,.int .u64 m] w1 fun e w'=>∃ r,e=.returned r∧Fresh w1 hd r w')),
   zZ x=hd++yx x.items∧((x.kind=4∧q=4∧m=x.items.length)∨(x.kind=5∧q=5∧m=(x.items.length:Int)/2)∨(x.kind=6∧q=6∧m=x.n)):=by
  rcases(by omega:x.kind=4∨x.kind=5∨x.kind=6) with h | h | h
  ·refine⟨4,x.items.length,_,fun w1=>yW 4 _ w1 (by omega) (by omega) (by omega) (by omega), ?_,.inl ⟨h,rfl,rfl⟩⟩
   have:numP x=x.items.length:=by simp[numP,h]
   rw[e0,h,this];rfl
  ·refine⟨5,(x.items.length:Int)/2,_,fun w1=>yW 5 _ w1 (by omega) (by omega) (by omega) (by omega), ?_,.inr (.inl ⟨h,rfl,rfl⟩)⟩
   have:numP x=x.items.length/2:=by simp[numP,h]
   rw[e0,h,this];rfl
  refine⟨6,x.n,_,fun w1=>yW 6 _ w1 (by omega) (by omega) (by omega) (by have:=HN.out;omega), ?_,.inr (.inr ⟨h,rfl,rfl⟩)⟩
  have:numP x=x.n:=by simp[numP,h]
  rw[e0,h,this];rfl
 obtain⟨q,m,hd,D,e1,h3⟩:=three;have E:=Hh e1;have br:hd.length+(yx x.items).length≤1099511627776:=by rw[← List.length_append,← e1,e0,List.length_append];exact HL.out
 have Ud:=Hh br;clear e0 e1 br HL hk;have KW:IntKind.u64.wrap (x.items.length:Int)=(x.items.length:Int):=IntWalk.u64_in _ (by omega);have KW2:IntKind.u64.wrap ((x.items.length:Int)/2)=(x.items.length:Int)/2:=IntWalk.u64_in _ (by omega)
 rcases h3 with ⟨hk,rfl,rfl⟩ | ⟨hk,rfl,rfl⟩ | ⟨hk,rfl,rfl⟩
 ·obtain⟨b0,b1,b2,b3,b4,b5,b6,b7,b8⟩:=WP hk;clear hk;go_enter Tryz.func38,Tryz.ntmps38
  go_wp2_with fail
  refine(D.out _).mono ?_
  rintro e w1 ⟨r,rfl,hf⟩
  have ws:=hB.below hf.2;have wU:=vL.trans (hf.2.mono vL.size);have c3:=ws.cell 3 rfl;have nR:=hf.own.more vL.size;obtain⟨RA,rc,rfl,_⟩:=nR.form;clear hf;go_wp2_with fail
  go_loopw [3,69] (fun v3 v69 wr=>∃ (k:Nat) (VA:Option Addr) (vc vn:Nat) (l:List UInt8),k≤x.items.length∧v69=.int .i64 k∧v3=.slice VA vn vc∧OwnB wr w.heap.size (.slice VA vn vc) l∧vn=l.length∧(zZ x=l++yx (x.items.drop k))∧Below w.heap.size w wr) (fun _ v69 _=>x.items.length-(intOf v69).toNat)
  case atStart=>exact⟨0,_,_,_,_,Nat.zero_le _,rfl,rfl,nR,rfl,by rw[E.out];rfl,wU⟩
  case round =>
  obtain⟨k,VA,vc,vn,l,sZ,rfl,rfl,vW,em,vD,xP⟩:=hrel;have HV:=Hh em;have HE:=Hh vD;clear em vD
  by_cases ye:k<x.items.length
  ·have wF:Holds wr H:=hH.below xP (Nat.le_refl _);obtain⟨ib,io,rH,vD⟩:=HX.out.items (by omega);obtain⟨eba,ebc,eia,eic,q0,q1,q2,q3,tA⟩:=vD.get k ye;subst rH;have p0:=wF.cell q0;have p1:=wF.cell q1;have p2:=wF.cell q2;have p3:=wF.cell q3;have rQ:yx (x.items.drop k)=zZ x.items[k]++yx (x.items.drop (k+1)):=by rw[List.drop_eq_getElem_cons ye,yx]
   have pg:l.length+(zZ x.items[k]).length≤1099511627776:=by
    have h1:=Ud.out;rw[← List.length_append,← E.out,HE.out,rQ]at h1
    simp only[List.length_append]at h1
    omega
   have HF:Hid (zZ x=(l++zZ x.items[k])++yx (x.items.drop (k+1))):=by rw[Hid,HE.out,rQ,List.append_assoc]
   have IHC:=ih x.items[k] (vF x k ye) H _ _ eba _ ebc eia _ eic (wr.alloc (.cells #[.int .i64 x.items[k].kind,.int .u64 x.items[k].n,.slice eba x.items[k].bytes.length ebc,.slice eia x.items[k].items.length eic] 57)) (lv+1)
    (HG.out.get _ (List.getElem_mem ye)) (by omega) tA.arg (wF.alloc _)
   have IHH:=Hh IHC;have ta:=xP.alloc xP.size (zS x.items[k] eba ebc eia eic);have rn:=vW.alloc (zS x.items[k] eba ebc eia eic);clear rQ q0 q1 q2 q3 IHC vW;go_wp2_with fail
   refine IHH.out.mono ?_
   rintro e w6 ⟨r6,rfl,rT⟩
   obtain⟨SA,sc,rfl,_⟩:=rT.own.form;have sK:=rn.below rT.2;have tf:=ta.trans (rT.2.mono ta.size);have lf:=pg;clear pg;go_wp2_with (at_builtin;refine yf ?_)
   unfold yP
   obtain rfl:=HV.out
   refine zR rfl (.tmp 73) (.tmp 75) rfl w.heap.size _ _ rfl sK SA _ sc (zZ x.items[k]) rfl rfl rT.own.src lf tf.size fun v' w7 vo hg7 hat7=>?_
   obtain⟨VA',vc',rfl,_⟩:=vo.form;have bK:OwnB w7 w.heap.size (.slice VA' (l.length+(zZ x.items[k]).length) vc') (l++zZ x.items[k]):=by rw[← List.length_append];exact vo
   have vJ:=tf.grown hg7 tf.size (fun q hq=>(sK.lt q hq).1);clear lf sK vo hg7 hat7 rT IHH p0 p1 p2 p3 rn ta tf xP;go_wp2_with fail
   go_roundw
   case rel=>exact⟨k+1,VA',vc',_,_,by omega,by go_num,rfl,bK,by rw[List.length_append],HF.out,vJ⟩
   case measure=>simp[intOf];omega
  have cL:k=x.items.length:=by omega
  subst cL;have HZ:Hid (zZ x=l):=by rw[Hid,HE.out,List.drop_length,yx,List.append_nil]
  go_wp2_with fail
  go_ret
  obtain rfl:=HV.out
  exact⟨_,rfl,by rw[HZ.out];exact⟨vW,xP⟩⟩
 ·obtain⟨b0,b1,b2,b3,b4,b5,b6,b7,b8⟩:=WR hk;clear hk;go_enter Tryz.func38,Tryz.ntmps38
  go_wp2_with fail
  refine(D.out _).mono ?_
  rintro e w1 ⟨r,rfl,hf⟩
  have ws:=hB.below hf.2;have wU:=vL.trans (hf.2.mono vL.size);have c3:=ws.cell 3 rfl;have nR:=hf.own.more vL.size;obtain⟨RA,rc,rfl,_⟩:=nR.form;clear hf;go_wp2_with fail
  go_loopw [3,69] (fun v3 v69 wr=>∃ (k:Nat) (VA:Option Addr) (vc vn:Nat) (l:List UInt8),k≤x.items.length∧v69=.int .i64 k∧v3=.slice VA vn vc∧OwnB wr w.heap.size (.slice VA vn vc) l∧vn=l.length∧(zZ x=l++yx (x.items.drop k))∧Below w.heap.size w wr) (fun _ v69 _=>x.items.length-(intOf v69).toNat)
  case atStart=>exact⟨0,_,_,_,_,Nat.zero_le _,rfl,rfl,nR,rfl,by rw[E.out];rfl,wU⟩
  case round =>
  obtain⟨k,VA,vc,vn,l,sZ,rfl,rfl,vW,em,vD,xP⟩:=hrel;have HV:=Hh em;have HE:=Hh vD;clear em vD
  by_cases ye:k<x.items.length
  ·have wF:Holds wr H:=hH.below xP (Nat.le_refl _);obtain⟨ib,io,rH,vD⟩:=HX.out.items (by omega);obtain⟨eba,ebc,eia,eic,q0,q1,q2,q3,tA⟩:=vD.get k ye;subst rH;have p0:=wF.cell q0;have p1:=wF.cell q1;have p2:=wF.cell q2;have p3:=wF.cell q3;have rQ:yx (x.items.drop k)=zZ x.items[k]++yx (x.items.drop (k+1)):=by rw[List.drop_eq_getElem_cons ye,yx]
   have pg:l.length+(zZ x.items[k]).length≤1099511627776:=by
    have h1:=Ud.out;rw[← List.length_append,← E.out,HE.out,rQ]at h1
    simp only[List.length_append]at h1
    omega
   have HF:Hid (zZ x=(l++zZ x.items[k])++yx (x.items.drop (k+1))):=by rw[Hid,HE.out,rQ,List.append_assoc]
   have IHC:=ih x.items[k] (vF x k ye) H _ _ eba _ ebc eia _ eic (wr.alloc (.cells #[.int .i64 x.items[k].kind,.int .u64 x.items[k].n,.slice eba x.items[k].bytes.length ebc,.slice eia x.items[k].items.length eic] 57)) (lv+1)
    (HG.out.get _ (List.getElem_mem ye)) (by omega) tA.arg (wF.alloc _)
   have IHH:=Hh IHC;have ta:=xP.alloc xP.size (zS x.items[k] eba ebc eia eic);have rn:=vW.alloc (zS x.items[k] eba ebc eia eic);clear rQ q0 q1 q2 q3 IHC vW;go_wp2_with fail
   refine IHH.out.mono ?_
   rintro e w6 ⟨r6,rfl,rT⟩
   obtain⟨SA,sc,rfl,_⟩:=rT.own.form;have sK:=rn.below rT.2;have tf:=ta.trans (rT.2.mono ta.size);have lf:=pg;clear pg;go_wp2_with (at_builtin;refine yf ?_)
   unfold yP
   obtain rfl:=HV.out
   refine zR rfl (.tmp 73) (.tmp 75) rfl w.heap.size _ _ rfl sK SA _ sc (zZ x.items[k]) rfl rfl rT.own.src lf tf.size fun v' w7 vo hg7 hat7=>?_
   obtain⟨VA',vc',rfl,_⟩:=vo.form;have bK:OwnB w7 w.heap.size (.slice VA' (l.length+(zZ x.items[k]).length) vc') (l++zZ x.items[k]):=by rw[← List.length_append];exact vo
   have vJ:=tf.grown hg7 tf.size (fun q hq=>(sK.lt q hq).1);clear lf sK vo hg7 hat7 rT IHH p0 p1 p2 p3 rn ta tf xP;go_wp2_with fail
   go_roundw
   case rel=>exact⟨k+1,VA',vc',_,_,by omega,by go_num,rfl,bK,by rw[List.length_append],HF.out,vJ⟩
   case measure=>simp[intOf];omega
  have cL:k=x.items.length:=by omega
  subst cL;have HZ:Hid (zZ x=l):=by rw[Hid,HE.out,List.drop_length,yx,List.append_nil]
  go_wp2_with fail
  go_ret
  obtain rfl:=HV.out
  exact⟨_,rfl,by rw[HZ.out];exact⟨vW,xP⟩⟩
 obtain⟨b0,b1,b2,b3,b4,b5,b6,b7,b8⟩:=WS hk;clear hk;go_enter Tryz.func38,Tryz.ntmps38
 go_wp2_with fail
 refine(D.out _).mono ?_
 rintro e w1 ⟨r,rfl,hf⟩
 have ws:=hB.below hf.2;have wU:=vL.trans (hf.2.mono vL.size);have c3:=ws.cell 3 rfl;have nR:=hf.own.more vL.size;obtain⟨RA,rc,rfl,_⟩:=nR.form;clear hf;go_wp2_with fail
 go_loopw [3,69] (fun v3 v69 wr=>∃ (k:Nat) (VA:Option Addr) (vc vn:Nat) (l:List UInt8),k≤x.items.length∧v69=.int .i64 k∧v3=.slice VA vn vc∧OwnB wr w.heap.size (.slice VA vn vc) l∧vn=l.length∧(zZ x=l++yx (x.items.drop k))∧Below w.heap.size w wr) (fun _ v69 _=>x.items.length-(intOf v69).toNat)
 case atStart=>exact⟨0,_,_,_,_,Nat.zero_le _,rfl,rfl,nR,rfl,by rw[E.out];rfl,wU⟩
 case round =>
 obtain⟨k,VA,vc,vn,l,sZ,rfl,rfl,vW,em,vD,xP⟩:=hrel;have HV:=Hh em;have HE:=Hh vD;clear em vD
 by_cases ye:k<x.items.length
 ·have wF:Holds wr H:=hH.below xP (Nat.le_refl _);obtain⟨ib,io,rH,vD⟩:=HX.out.items (by omega);obtain⟨eba,ebc,eia,eic,q0,q1,q2,q3,tA⟩:=vD.get k ye;subst rH;have p0:=wF.cell q0;have p1:=wF.cell q1;have p2:=wF.cell q2;have p3:=wF.cell q3;have rQ:yx (x.items.drop k)=zZ x.items[k]++yx (x.items.drop (k+1)):=by rw[List.drop_eq_getElem_cons ye,yx]
  have pg:l.length+(zZ x.items[k]).length≤1099511627776:=by
   have h1:=Ud.out;rw[← List.length_append,← E.out,HE.out,rQ]at h1
   simp only[List.length_append]at h1
   omega
  have HF:Hid (zZ x=(l++zZ x.items[k])++yx (x.items.drop (k+1))):=by rw[Hid,HE.out,rQ,List.append_assoc]
  have IHC:=ih x.items[k] (vF x k ye) H _ _ eba _ ebc eia _ eic (wr.alloc (.cells #[.int .i64 x.items[k].kind,.int .u64 x.items[k].n,.slice eba x.items[k].bytes.length ebc,.slice eia x.items[k].items.length eic] 57)) (lv+1)
   (HG.out.get _ (List.getElem_mem ye)) (by omega) tA.arg (wF.alloc _)
  have IHH:=Hh IHC;have ta:=xP.alloc xP.size (zS x.items[k] eba ebc eia eic);have rn:=vW.alloc (zS x.items[k] eba ebc eia eic);clear rQ q0 q1 q2 q3 IHC vW;go_wp2_with fail
  refine IHH.out.mono ?_
  rintro e w6 ⟨r6,rfl,rT⟩
  obtain⟨SA,sc,rfl,_⟩:=rT.own.form;have sK:=rn.below rT.2;have tf:=ta.trans (rT.2.mono ta.size);have lf:=pg;clear pg;go_wp2_with (at_builtin;refine yf ?_)
  unfold yP
  obtain rfl:=HV.out
  refine zR rfl (.tmp 73) (.tmp 75) rfl w.heap.size _ _ rfl sK SA _ sc (zZ x.items[k]) rfl rfl rT.own.src lf tf.size fun v' w7 vo hg7 hat7=>?_
  obtain⟨VA',vc',rfl,_⟩:=vo.form;have bK:OwnB w7 w.heap.size (.slice VA' (l.length+(zZ x.items[k]).length) vc') (l++zZ x.items[k]):=by rw[← List.length_append];exact vo
  have vJ:=tf.grown hg7 tf.size (fun q hq=>(sK.lt q hq).1);clear lf sK vo hg7 hat7 rT IHH p0 p1 p2 p3 rn ta tf xP;go_wp2_with fail
  go_roundw
  case rel=>exact⟨k+1,VA',vc',_,_,by omega,by go_num,rfl,bK,by rw[List.length_append],HF.out,vJ⟩
  case measure=>simp[intOf];omega
 have cL:k=x.items.length:=by omega
 subst cL;have HZ:Hid (zZ x=l):=by rw[Hid,HE.out,List.drop_length,yx,List.append_nil]
 go_wp2_with fail
 go_ret
 obtain rfl:=HV.out
 exact⟨_,rfl,by rw[HZ.out];exact⟨vW,xP⟩⟩
theorem sP (x:Itm):kP x:=by
 have main:∀ N,∀ x:Itm,cnt x≤N→kP x:=by
  intro N
  induction N with
  | zero =>
   intro x hx
   have:0<cnt x:=by cases x;rw[cnt];omega
   omega
  | succ N ih =>
  intro x hx
  by_cases hk:4≤x.kind∧x.kind≤6
  ·exact Vy x hk fun y hy=>ih y (by omega)
  intro H k n ba bl bc ia il ic w lv hg hl ha hH
  obtain⟨rfl,rfl,rfl,rfl,hi⟩:=ha.eqs_;have cL:=rW hg.node
  rcases(by omega:(x.kind=0∨x.kind=1)∨(x.kind=2∨x.kind=3)∨x.kind=7∨x.kind=8) with h | h | h | h
  ·exact U7 x w lv h hg hi
  ·exact U8 x w lv h hg hl hi hH
  ·exact ak x w lv h hg hi
  exact YV x w h hi
 exact main _ x (Nat.le_refl _)
mutual
def Nums:Itm→Prop
 | .mk _ n _ l=>n<18446744073709551616∧NumsL l
def NumsL:List Itm→Prop
 | []=>True
 | x::l=>Nums x∧NumsL l
end
theorem Nums.n_ {x:Itm}(h:Nums x):x.n<18446744073709551616:=by cases x;rw[Nums]at h;exact h.1
theorem Nums.items {x:Itm}(h:Nums x):NumsL x.items:=by cases x;rw[Nums]at h;exact h.2
theorem NumsL.get:∀ {l:List Itm},NumsL l→∀ x∈l,Nums x
 | [],_,x,hx=>by cases hx
 | y::l,h,x,hx=>by
  rw[NumsL]at h
  rcases List.mem_cons.1 hx with rfl | hx
  ·exact h.1
  exact h.2.get x hx
mutual
theorem IsItem.nums {H:Snap}:∀ {x:Itm}{ba:Option Addr}{bc:Nat}{ia:Option Addr}{ic:Nat},IsItem H ba bc ia ic x→Nums x
 | .mk k n bs l,ba,bc,ia,ic,h=>by
  rw[IsItem]at h;rw[Nums]
  refine⟨h.1.2.2.1, ?_⟩
  by_cases h0:0<l.length
  ·obtain⟨b,off,_,he⟩:=h.2.2 h0
   exact IsElems.nums he
  have:l=[]:=List.eq_nil_of_length_eq_zero (by omega);subst this;rw[NumsL];trivial
theorem IsElems.nums {H:Snap}:∀ {l:List Itm}{b off:Nat},IsElems H b off l→NumsL l
 | [],_,_,_=>by rw[NumsL];trivial
 | x::l,b,off,h=>by
  rw[IsElems]at h;obtain⟨⟨ba,bc,ia,ic,_,_,_,_,hx⟩,hr⟩:=h;rw[NumsL]
  exact⟨IsItem.nums hx,IsElems.nums hr⟩
end
theorem jX:∀ {l:List Itm}{x:Itm},x∈l→cnt x≤xG l
 | [],x,h=>by cases h
 | y::l,x,h=>by
  rw[xG]
  rcases List.mem_cons.1 h with rfl | h
  ·omega
  have:=jX h;omega
theorem mj:∀ {l:List Itm}{x:Itm},x∈l→(zZ x).length≤(yx l).length
 | [],x,h=>by cases h
 | y::l,x,h=>by
  rw[yx,List.length_append]
  rcases List.mem_cons.1 h with rfl | h
  ·omega
  have:=mj h;omega
theorem ue {m x:Itm}(h:zL m=true) (hx:x∈m.items):zL x=true:=by
 rw[wX]at h⊢;obtain⟨h1,h2,h3⟩:=h
 refine⟨(h1.items.get x hx).le (by omega), ?_, ?_⟩
 ·have:=jX hx;have:=pc m;omega
 have:=mj hx;have:=ms h1.node;omega
theorem Xq {a b:Itm}{l:List Itm}(h:wn (a::b::l)=true):wn l=true:=by
 match l with
 | []=>rfl
 | c::r=>rw[wn,Bool.and_eq_true]at h;exact h.2
theorem lu (n:Nat):isNaN n=true↔n/2 ^ 52%2048=2047∧n%2 ^ 52≠0:=by
 simp[isNaN]
theorem eG (n:Nat):(Ieee.double.read n).isNaN=isNaN n:=by
 rw[Bool.eq_iff_iff,lu];have hs:Ieee.double.signWeight=9223372036854775808:=rfl;have hb:Ieee.double.binade=4503599627370496:=rfl;have hi:Ieee.double.infRung=9218868437227405312:=rfl
 simp only[Nat.reducePow]
 by_cases h1:n%Ieee.double.signWeight<Ieee.double.binade
 ·rw[show Ieee.double.read n=.number _ _ _ from if_pos h1];rw[hs,hb]at h1
  simp only[Ieee.Datum.isNaN,Bool.false_eq_true,false_iff]
  omega
 by_cases h2:n%Ieee.double.signWeight<Ieee.double.infRung
 ·rw[show Ieee.double.read n=.number _ _ _ from(if_neg h1).trans (if_pos h2)];rw[hs,hi]at h2
  simp only[Ieee.Datum.isNaN,Bool.false_eq_true,false_iff]
  omega
 by_cases h3:n%Ieee.double.signWeight=Ieee.double.infRung
 ·rw[show Ieee.double.read n=.infinity _ from(if_neg h1).trans ((if_neg h2).trans (if_pos h3))];rw[hs,hi]at h3
  simp only[Ieee.Datum.isNaN,Bool.false_eq_true,false_iff]
  omega
 rw[show Ieee.double.read n=.nan _ _ from(if_neg h1).trans ((if_neg h2).trans (if_neg h3))];rw[hs,hi]at h2 h3
 simp only[Ieee.Datum.isNaN,true_iff]
 omega
theorem aa (d:Ieee.Datum):(d.order d==some .eq) = !d.isNaN:=by
 cases d with
 | nan a b=>rfl
 | infinity s=>cases s <;> rfl
 | number s m i =>
 simp[Ieee.Datum.order,Ieee.Datum.isNaN]
theorem gX (n:Nat):(FloatKind.f64.format.order n n==some .eq) = !isNaN n:=by
 show(Ieee.Datum.order (Ieee.double.read n) (Ieee.double.read n)==some .eq)=_
 rw[aa,eG]
theorem YM (n:Nat):(FloatKind.f64.format.order n n != some .eq)=isNaN n:=by
 rw[bne,gX,Bool.not_not]
theorem vX (n:Nat) (w:World):(callFunc 90 #[.int .u64 (n:Int)]).run Tryz.prog w=.ok (.value (.float .f64 n)) w:=by
 rw[run_callFunc_extern Tryz.func90 (by kernel_rfl) (by kernel_rfl) (by kernel_rfl) (e:=Extern.MathFloatBits.float64frombits) (by kernel_rfl)];rfl
theorem yL (n:Nat) (w:World):(callFunc 91 #[.float .f64 n]).run Tryz.prog w=.ok (.value (.int .u64 (n:Int))) w:=by
 rw[run_callFunc_extern Tryz.func91 (by kernel_rfl) (by kernel_rfl) (by kernel_rfl) (e:=Extern.MathFloatBits.float64bits) (by kernel_rfl)];rfl
theorem dJ (n:Nat) (w:World):(callFunc 93 #[.float .f32 n]).run Tryz.prog w=.ok (.value (.int .u32 (n:Int))) w:=by
 rw[run_callFunc_extern Tryz.func93 (by kernel_rfl) (by kernel_rfl) (by kernel_rfl) (e:=Extern.MathFloatBits.float32bits) (by kernel_rfl)];rfl
def SB (H:Snap) (A:Option Addr) (t:ByteArray):Prop:=0<t.size→∃ b off,A=some ⟨b,off,none⟩∧∀ j,j<t.size→H.cell? ⟨b,off+j,none⟩=some (.int .u8 ((t.get! j).toNat:Int))
theorem Te (l:List UInt8):(⟨l.toArray⟩:ByteArray).data.toList=l:=by simp
theorem R6 (l:List UInt8) (j:Nat) (h:j<l.length):(⟨l.toArray⟩:ByteArray).get! j=l[j]:=by
 show l.toArray[j]! = l[j]
 rw[getElem!_pos l.toArray j (by simpa using h)]
 simp
theorem SB.of {H:Snap}{A:Option Addr}{c:Nat}{l:List UInt8}(h:IsBytes H A c l):SB H A ⟨l.toArray⟩:=fun h0=>by
 have hl:(⟨l.toArray⟩:ByteArray).size=l.length:=by show l.toArray.size=l.length;simp
 rw[hl]at h0;obtain⟨b,off,e,hc⟩:=h.at_ h0
 refine⟨b,off,e,fun j hj=>?_⟩
 rw[hl]at hj;rw[hc j hj,R6 l j hj]
theorem tG {H:Snap}{A:Option Addr}{t:ByteArray}(hs:SB H A t) (h8:8≤t.size) (c:Nat) (w:World) (hH:Holds w H) :
  Calls Tryz.prog 109 #[.slice A t.size c] w fun e w'=>e=.returned (.int .u64 ((Lib.leNat [t.get! 0,t.get! 1,t.get! 2,t.get! 3,t.get! 4,t.get! 5,t.get! 6,t.get! 7]:Nat):Int))∧∃ q,w'=w.drewN q:=by
 obtain⟨b,off,rfl,hc⟩:=hs (by omega);have c0:=hH.cell (hc 0 (by omega));have q0:(0:Int)<(t.size:Int):=by omega
 have p0:0<t.size:=by omega
 have c1:=hH.cell (hc 1 (by omega));have q1:(1:Int)<(t.size:Int):=by omega
 have p1:1<t.size:=by omega
 have c2:=hH.cell (hc 2 (by omega));have q2:(2:Int)<(t.size:Int):=by omega
 have p2:2<t.size:=by omega
 have c3:=hH.cell (hc 3 (by omega));have q3:(3:Int)<(t.size:Int):=by omega
 have p3:3<t.size:=by omega
 have c4:=hH.cell (hc 4 (by omega));have q4:(4:Int)<(t.size:Int):=by omega
 have p4:4<t.size:=by omega
 have c5:=hH.cell (hc 5 (by omega));have q5:(5:Int)<(t.size:Int):=by omega
 have p5:5<t.size:=by omega
 have c6:=hH.cell (hc 6 (by omega));have q6:(6:Int)<(t.size:Int):=by omega
 have p6:6<t.size:=by omega
 have c7:=hH.cell (hc 7 (by omega));have q7:(7:Int)<(t.size:Int):=by omega
 have p7:7<t.size:=by omega
 have l0:=(t.get! 0).toNat_lt
 generalize t.get! 0=x0 at *
 have l1:=(t.get! 1).toNat_lt
 generalize t.get! 1=x1 at *
 have l2:=(t.get! 2).toNat_lt
 generalize t.get! 2=x2 at *
 have l3:=(t.get! 3).toNat_lt
 generalize t.get! 3=x3 at *
 have l4:=(t.get! 4).toNat_lt
 generalize t.get! 4=x4 at *
 have l5:=(t.get! 5).toNat_lt
 generalize t.get! 5=x5 at *
 have l6:=(t.get! 6).toNat_lt
 generalize t.get! 6=x6 at *
 have l7:=(t.get! 7).toNat_lt
 generalize t.get! 7=x7 at *
 have hv:((Lib.leNat [x0,x1,x2,x3,x4,x5,x6,x7]:Nat):Int)=(x0.toNat:Int)+(x1.toNat:Int)*256+(x2.toNat:Int)*65536+(x3.toNat:Int)*16777216+(x4.toNat:Int)*4294967296+(x5.toNat:Int)*1099511627776+(x6.toNat:Int)*281474976710656+(x7.toNat:Int)*72057594037927936:=by
  simp only[Lib.leNat]
  push_cast
  omega
 have HV:=Hh hv;clear hv hc hs
 simp only[Nat.add_zero]at c0
 go_enter Tryz.func109,Tryz.ntmps109
 go_upto_region 2 with fail
 refine zr 47 (fun w'=>w'.cell? ⟨b,off,none⟩=some (.int .u8 (x0.toNat:Int))∧w'.cell? ⟨b,off+1,none⟩=some (.int .u8 (x1.toNat:Int))∧w'.cell? ⟨b,off+2,none⟩=some (.int .u8 (x2.toNat:Int))∧w'.cell? ⟨b,off+3,none⟩=some (.int .u8 (x3.toNat:Int))∧w'.cell? ⟨b,off+4,none⟩=some (.int .u8 (x4.toNat:Int))∧w'.cell? ⟨b,off+5,none⟩=some (.int .u8 (x5.toNat:Int))∧w'.cell? ⟨b,off+6,none⟩=some (.int .u8 (x6.toNat:Int))∧w'.cell? ⟨b,off+7,none⟩=some (.int .u8 (x7.toNat:Int))) (by kernel_rfl) (⟨c0,c1,c2,c3,c4,c5,c6,c7⟩) (fun zy=>?_)
 refine TkS 0 rfl zy ?_
 refine TkS 1 rfl zy ?_
 refine TkS 2 rfl zy ?_
 refine TkS 3 rfl zy ?_
 refine TkS 4 rfl zy ?_
 refine TkS 5 rfl zy ?_
 refine TkS 6 rfl zy ?_
 refine TkS 7 rfl zy ?_
 refine TkS 8 rfl zy ?_
 refine TkS 9 rfl zy ?_
 refine TkS 10 rfl zy ?_
 refine TkS 11 rfl zy ?_
 refine TkS 12 rfl zy ?_
 refine TkS 13 rfl zy ?_
 refine TkS 14 rfl zy ?_
 refine TkS 15 rfl zy ?_
 refine TkS 16 rfl zy ?_
 refine TkS 17 rfl zy ?_
 refine TkS 18 rfl zy ?_
 refine TkS 19 rfl zy ?_
 refine TkS 20 rfl zy ?_
 refine TkS 21 rfl zy ?_
 refine TkS 22 rfl zy ?_
 refine TkS 23 rfl zy ?_
 refine TkS 24 rfl zy ?_
 refine TkS 25 rfl zy ?_
 refine TkS 26 rfl zy ?_
 refine TkS 27 rfl zy ?_
 refine TkS 28 rfl zy ?_
 refine TkS 29 rfl zy ?_
 refine TkS 30 rfl zy ?_
 refine TkS 31 rfl zy ?_
 refine TkS 32 rfl zy ?_
 refine TkS 33 rfl zy ?_
 refine TkS 34 rfl zy ?_
 refine TkS 35 rfl zy ?_
 refine TkS 36 rfl zy ?_
 refine TkS 37 rfl zy ?_
 refine TkS 38 rfl zy ?_
 refine TkS 39 rfl zy ?_
 refine TkS 40 rfl zy ?_
 refine TkS 41 rfl zy ?_
 refine TkS 42 rfl zy ?_
 refine TkS 43 rfl zy ?_
 refine TkS 44 rfl zy ?_
 refine TkS 45 rfl zy ?_
 refine TkS 46 rfl zy ?_
 refine Wd ?_
 clear zy;go_wp2_with fail
 go_ret
 refine⟨?_,1,rfl⟩
 simp (disch:=omega) only [u64_wrap_id,u64_or8,u64_or16,u64_or24,u64_or32,u64_or40,u64_or48,u64_or56]
 rw[HV.out];rfl
end Go.Proofs.YtgcjjhibdbafmabGreatDoor
