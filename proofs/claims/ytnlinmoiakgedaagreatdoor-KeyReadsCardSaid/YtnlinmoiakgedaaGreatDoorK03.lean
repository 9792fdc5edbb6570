/- squeezed. Walks: the references' Raw. Walks: -/
import Derived.Test.YtnlinmoiakgedaaGreatDoorK02
set_option linter.unusedVariables false
set_option linter.unusedSimpArgs false
set_option maxRecDepth 100000
set_option maxHeartbeats 3200000
namespace Go.Proofs.YtnlinmoiakgedaaGreatDoor
open Go.RowKit
theorem ItemA.eqs_ {H:Snap}{k n:Int}{ba:Option Addr}{bl bc:Nat}{ia:Option Addr}{il ic:Nat}{x:Itm}(h:ItemA H k n ba bl bc ia il ic x):k=x.kind∧n=(x.n:Int)∧bl=x.bytes.length∧il=x.items.length∧IsItem H ba bc ia ic x:=⟨h.1,h.2,h.3,h.4,h.5⟩
theorem Fresh.step {w w1 w2:World}{l:List UInt8}{r:Value}(hb:Below w.heap.size w w1) (h:Fresh w1 l r w2):Fresh w l r w2:=⟨h.own.more hb.size,hb.trans (h.2.mono hb.size)⟩
theorem Fresh.litAt (w:World) (l:List UInt8) (cs:Array Value) (k b:Nat) (hb:b=w.heap.size) (hk:k=l.length) (hm:l.length≤4096) (hc:cs.toList=l.map zD) :
  Fresh w l (.slice (some ⟨b,0,none⟩) k k) (w.alloc (.cells cs 5)):=by
 subst hb
 exact Fresh.lit w l cs k hk hm hc
def lZ (x:Itm):Prop:=∀ (H:Snap) (k n:Int) (ba:Option Addr) (bl bc:Nat) (ia:Option Addr) (il ic:Nat) (w:World) (lv:Nat),
 Good x lv→(zd x).length≤1099511627776→ItemA H k n ba bl bc ia il ic x→Holds w H→
 Calls Tryz.prog 37 #[.agg #[.int .i64 k,.int .u64 n,.slice ba bl bc,.slice ia il ic]] w fun e w'=>∃ r,e=.returned r∧Fresh w (zd x) r w'
theorem bO {x:Itm}{lv:Nat}(h:Good x lv) (hk:x.kind=0∨x.kind=1):zd x=zm x.kind.toNat x.n:=by
 have ho:=h.node
 rcases xL ho with ⟨h1,h2⟩ | ⟨h1,_⟩
 ·have hi:=(xp h1 h2).1;have hb:x.bytes=[]:=by simp[yq,hk]at h2;exact h2.1
  have hn:numP x=x.n:=by unfold numP;rcases hk with h | h <;> simp[h]
  rw[xf,if_neg (by omega),if_neg (by omega),hi,hb,zB,hn]
  simp
 ·rw[(z8 x).2 (by omega)]at h1;cases h1
theorem Vp {x:Itm}{lv:Nat}(h:Good x lv) (hk:x.kind=2∨x.kind=3):zd x=zm x.kind.toNat x.bytes.length++x.bytes:=by
 have ho:=h.node
 rcases xL ho with ⟨h1,h2⟩ | ⟨h1,_⟩
 ·have hi:=(xp h1 h2).1;have hn:numP x=x.bytes.length:=by unfold numP;rw[if_pos hk]
  rw[xf,if_neg (by omega),if_neg (by omega),hi,zB,hn]
  simp
 ·rw[(z8 x).2 (by omega)]at h1;cases h1
theorem Xp {x:Itm}{lv:Nat}(h:Good x lv) (hk:4≤x.kind∧x.kind≤6):zd x=zm x.kind.toNat (numP x)++zB x.items:=by
 have ho:=h.node
 rcases xL ho with ⟨h1,_⟩ | ⟨_,h1⟩
 ·rw[z8]at h1;omega
 ·have hb:=(x8 h1).2.2.2.1;rw[List.length_eq_zero_iff]at hb;rw[xf,if_neg (by omega),if_neg (by omega),hb]
  simp
theorem cU {x:Itm}{lv:Nat}(h:Good x lv) (hk:x.kind=7):zd x=if x.n<24 then [u8 (224+x.n)] else [u8 248,u8 x.n]:=by
 have ho:=h.node
 rcases xL ho with ⟨h1,h2⟩ | ⟨h1,_⟩
 ·have hi:=xp h1 h2;have hn:numP x=x.n:=by unfold numP;simp[hk]
  by_cases ta:x.n<24
  ·rw[if_pos ta,xf,if_neg (by omega),if_neg (by omega),hi.1,hi.2 (by omega),zB,hn,zm,if_pos ta,hk];rfl
  ·rw[if_neg ta,xf,if_neg (by omega),if_pos ⟨hk,by omega⟩]
 ·rw[(z8 x).2 (by omega)]at h1;cases h1
theorem YW {k:Int}(h:k=0):(k==0)=true∧(k==1)=false∧(k==2)=false∧(k==3)=false∧(k==4)=false∧(k==5)=false∧(k==6)=false∧(k==7)=false∧(k==8)=false:=by
 subst h;decide
theorem YX {k:Int}(h:k=1):(k==0)=false∧(k==1)=true∧(k==2)=false∧(k==3)=false∧(k==4)=false∧(k==5)=false∧(k==6)=false∧(k==7)=false∧(k==8)=false:=by
 subst h;decide
theorem YY {k:Int}(h:k=2):(k==0)=false∧(k==1)=false∧(k==2)=true∧(k==3)=false∧(k==4)=false∧(k==5)=false∧(k==6)=false∧(k==7)=false∧(k==8)=false:=by
 subst h;decide
theorem YZ {k:Int}(h:k=3):(k==0)=false∧(k==1)=false∧(k==2)=false∧(k==3)=true∧(k==4)=false∧(k==5)=false∧(k==6)=false∧(k==7)=false∧(k==8)=false:=by
 subst h;decide
theorem Ya {k:Int}(h:k=4):(k==0)=false∧(k==1)=false∧(k==2)=false∧(k==3)=false∧(k==4)=true∧(k==5)=false∧(k==6)=false∧(k==7)=false∧(k==8)=false:=by
 subst h;decide
theorem Yb {k:Int}(h:k=5):(k==0)=false∧(k==1)=false∧(k==2)=false∧(k==3)=false∧(k==4)=false∧(k==5)=true∧(k==6)=false∧(k==7)=false∧(k==8)=false:=by
 subst h;decide
theorem Yc {k:Int}(h:k=6):(k==0)=false∧(k==1)=false∧(k==2)=false∧(k==3)=false∧(k==4)=false∧(k==5)=false∧(k==6)=true∧(k==7)=false∧(k==8)=false:=by
 subst h;decide
theorem Yd {k:Int}(h:k=7):(k==0)=false∧(k==1)=false∧(k==2)=false∧(k==3)=false∧(k==4)=false∧(k==5)=false∧(k==6)=false∧(k==7)=true∧(k==8)=false:=by
 subst h;decide
theorem Ye {k:Int}(h:k=8):(k==0)=false∧(k==1)=false∧(k==2)=false∧(k==3)=false∧(k==4)=false∧(k==5)=false∧(k==6)=false∧(k==7)=false∧(k==8)=true:=by
 subst h;decide
section
variable (x:Itm) {H:Snap} {ba:Option Addr} {bc:Nat} {ia:Option Addr} {ic:Nat} (w:World) (lv:Nat)
theorem WI (hk:x.kind=0∨x.kind=1) (hg:Good x lv) (hx:IsItem H ba bc ia ic x) :
  Calls Tryz.prog 37 #[xN x ba bc ia ic] w fun e w'=>∃ r,e=.returned r∧Fresh w (zd x) r w':=by
 have E:Hid (zd x=zm x.kind.toNat x.n):=bO hg hk;have h0:0≤x.kind:=by omega
 have h8:x.kind<8:=by omega
 have HN:=Hh hx.bounds.2.2.1;have D:=Hh (yH x.kind (x.n:Int) (w.alloc (zW x ba bc ia ic)) h0 h8 (by omega) (by have:=HN.out;omega));have xj:=zi w (zW x ba bc ia ic);rw[Int.toNat_natCast]at D;clear hx hg h0 h8
 rcases hk with hk | hk
 ·obtain⟨b0,b1,b2,b3,b4,b5,b6,b7,b8⟩:=YW hk;clear hk;go_enter Tryz.func37,Tryz.ntmps37
  go_wp2_with fail
  refine D.out.mono ?_
  rintro e w1 ⟨r,rfl,hf⟩
  go_wp2_with fail
  go_ret
  exact⟨_,rfl,by rw[E.out];exact hf.step xj⟩
 ·obtain⟨b0,b1,b2,b3,b4,b5,b6,b7,b8⟩:=YX hk;clear hk;go_enter Tryz.func37,Tryz.ntmps37
  go_wp2_with fail
  refine D.out.mono ?_
  rintro e w1 ⟨r,rfl,hf⟩
  go_wp2_with fail
  go_ret
  exact⟨_,rfl,by rw[E.out];exact hf.step xj⟩
theorem dM (hk:x.kind=7) (hg:Good x lv) (hx:IsItem H ba bc ia ic x) :
  Calls Tryz.prog 37 #[xN x ba bc ia ic] w fun e w'=>∃ r,e=.returned r∧Fresh w (zd x) r w':=by
 have E0:=cU hg hk;have HN:=Hh hx.bounds.2.2.1;have xj:=zi w (zW x ba bc ia ic);obtain⟨b0,b1,b2,b3,b4,b5,b6,b7,b8⟩:=Yd hk;clear hx hg hk
 by_cases ta:x.n<24
 ·rw[if_pos ta]at E0;have E:=Hh E0;have hi:(x.n:Int)<24:=by omega
  clear E0;go_enter Tryz.func37,Tryz.ntmps37
  go_wp2_with fail
  go_ret
  refine⟨_,rfl, ?_⟩
  rw[E.out]
  refine(Fresh.litAt (w.alloc (zW x ba bc ia ic)) [u8 (224+x.n)] _ 1 _ (by simp) rfl (by simp) ?_).step xj
  simp only[List.map_cons,List.map_nil,xA]
  congr 2
  omega
 ·rw[if_neg ta]at E0;have E:=Hh E0;have hi:¬ (x.n:Int)<24:=by omega
  clear E0;go_enter Tryz.func37,Tryz.ntmps37
  go_wp2_with fail
  go_ret
  refine⟨_,rfl, ?_⟩
  rw[E.out]
  refine(Fresh.litAt (w.alloc (zW x ba bc ia ic)) [u8 248,u8 x.n] _ 2 _ (by simp) rfl (by simp) ?_).step xj
  simp only[List.map_cons,List.map_nil,xA]
  simp
theorem aY (hk:x.kind=8) (hx:IsItem H ba bc ia ic x) :
  Calls Tryz.prog 37 #[xN x ba bc ia ic] w fun e w'=>∃ r,e=.returned r∧Fresh w (zd x) r w':=by
 have E:Hid (zd x=zF x.n):=by rw[Hid,xf,if_pos hk]
 have D:=Hh (pP x.n hx.bounds.2.2.1 (w.alloc (zW x ba bc ia ic)));have xj:=zi w (zW x ba bc ia ic);obtain⟨b0,b1,b2,b3,b4,b5,b6,b7,b8⟩:=Ye hk;clear hx hk;go_enter Tryz.func37,Tryz.ntmps37
 go_wp2_with fail
 refine D.out.mono ?_
 rintro e w1 ⟨r,rfl,hf⟩
 go_wp2_with fail
 go_ret
 exact⟨_,rfl,by rw[E.out];exact hf.step xj⟩
theorem WJ (hk:x.kind=2∨x.kind=3) (hg:Good x lv) (hl:(zd x).length≤1099511627776) (hx:IsItem H ba bc ia ic x) (hH:Holds w H) :
  Calls Tryz.prog 37 #[xN x ba bc ia ic] w fun e w'=>∃ r,e=.returned r∧Fresh w (zd x) r w':=by
 have e0:=Vp hg hk;rw[e0,List.length_append]at hl;have E:=Hh e0;have h0:0≤x.kind:=by omega
 have h8:x.kind<8:=by omega
 have TY:x.bytes.length≤9223372036854775807:=by have:=hx.bounds;omega
 have Np:x.bytes.length<18446744073709551616:=by omega
 have HL:=Hh Np;have KW:IntKind.u64.wrap (x.bytes.length:Int)=(x.bytes.length:Int):=IntWalk.u64_in _ (by omega);have D:=fun w1:World=>yH x.kind (x.bytes.length:Int) w1 h0 h8 (by omega) (by have:=HL.out;omega)
 have xj:=(zi w (zW x ba bc ia ic)).drew;have hB:=Blk.new w 26 #[.int .i64 x.kind,.int .u64 x.n,.slice ba x.bytes.length bc,.slice ia x.items.length ic];have hB:=hB.drew;have hs:Src (w.alloc (zW x ba bc ia ic)).drew _ _:=(Src.of_row hx.bytes.row hH).alloc (zW x ba bc ia ic)
 simp only[Int.toNat_natCast]at D
 have DD:=Hh D;clear hg h0 h8 e0 hx D Np
 rcases hk with hk | hk
 ·obtain⟨b0,b1,b2,b3,b4,b5,b6,b7,b8⟩:=YY hk;clear hk;go_enter Tryz.func37,Tryz.ntmps37
  go_upto_region 9 with fail
  refine zf 10 (fun w'=>w'.cell? ⟨w.heap.size,0,none⟩=some (.int .i64 x.kind)∧w'.cell? ⟨w.heap.size,2,none⟩=some (.slice ba x.bytes.length bc)) (by kernel_rfl) (⟨hB.cell 0 rfl,hB.cell 2 rfl⟩) (fun zy=>?_)
  refine Tk 0 rfl zy ?_
  refine Tk 1 rfl zy ?_
  refine Tk 2 rfl zy ?_
  refine Tk 3 rfl zy ?_
  refine Tk 4 rfl zy ?_
  refine Tk 5 rfl zy ?_
  refine Tk 7 rfl zy ?_
  refine Tk 8 rfl zy ?_
  refine To 6 rfl fun K hK=>?_
  go_simp
  refine(DD.out _).mono ?_
  rintro e w1 ⟨r,rfl,hf⟩
  have yM:=hB.below hf.2;have xE:=hs.below hf.2;have vg:=xj.trans (hf.2.mono xj.size);have hz:=hf.2.size;obtain⟨RA,rc,rfl,_⟩:=hf.own.form
  refine hK.out _ _ (fun _=>?_) (fun zy=>?_)
  ·exact⟨yM.cell 0 rfl,yM.cell 2 rfl⟩
  clear hK K;have zy:=zy (by decide)
  try simp only[Act.put,zz4,zz5,zz6]
  refine To 9 rfl fun K hK=>?_
  rw[if_pos (by rfl)]
  refine yS (.tmp 28) (.tmp 30) rfl w.heap.size _ _ rfl (hf.own.more xj.size) _ x.bytes.length _ x.bytes rfl rfl xE (by omega) vg.size fun v' w2 rl wk _=>?_
  have yu:=yM.grown wk (fun h=>by have:=(hf.own.lt _ h).1;simp at this;omega);have wg:=vg.grown wk vg.size (fun q hq=>Nat.le_trans xj.size (hf.own.lt q hq).1)
  refine hK.out _ _ (fun _=>?_) (fun zy=>?_)
  ·exact⟨yu.cell 0 rfl,yu.cell 2 rfl⟩
  clear hK K;have zy:=zy (by decide)
  try simp only[Act.put,zz4,zz5,zz6]
  refine To 10 rfl fun K hK=>?_
  go_simp
  refine hK.out _ _ (fun h=>absurd rfl h) (fun _=>?_)
  clear hK K
  try simp only[Act.put,zz4,zz5,zz6]
  refine Ways.done (by kernel_rfl) ?_
  go_wp2_with fail
  go_ret
  exact⟨_,rfl,by rw[E.out];exact⟨rl,wg⟩⟩
 ·obtain⟨b0,b1,b2,b3,b4,b5,b6,b7,b8⟩:=YZ hk;clear hk;go_enter Tryz.func37,Tryz.ntmps37
  go_upto_region 9 with fail
  refine zf 10 (fun w'=>w'.cell? ⟨w.heap.size,0,none⟩=some (.int .i64 x.kind)∧w'.cell? ⟨w.heap.size,2,none⟩=some (.slice ba x.bytes.length bc)) (by kernel_rfl) (⟨hB.cell 0 rfl,hB.cell 2 rfl⟩) (fun zy=>?_)
  refine Tk 0 rfl zy ?_
  refine Tk 1 rfl zy ?_
  refine Tk 2 rfl zy ?_
  refine Tk 3 rfl zy ?_
  refine Tk 4 rfl zy ?_
  refine Tk 5 rfl zy ?_
  refine Tk 7 rfl zy ?_
  refine Tk 8 rfl zy ?_
  refine To 6 rfl fun K hK=>?_
  go_simp
  refine(DD.out _).mono ?_
  rintro e w1 ⟨r,rfl,hf⟩
  have yM:=hB.below hf.2;have xE:=hs.below hf.2;have vg:=xj.trans (hf.2.mono xj.size);have hz:=hf.2.size;obtain⟨RA,rc,rfl,_⟩:=hf.own.form
  refine hK.out _ _ (fun _=>?_) (fun zy=>?_)
  ·exact⟨yM.cell 0 rfl,yM.cell 2 rfl⟩
  clear hK K;have zy:=zy (by decide)
  try simp only[Act.put,zz4,zz5,zz6]
  refine To 9 rfl fun K hK=>?_
  rw[if_pos (by rfl)]
  refine yS (.tmp 28) (.tmp 30) rfl w.heap.size _ _ rfl (hf.own.more xj.size) _ x.bytes.length _ x.bytes rfl rfl xE (by omega) vg.size fun v' w2 rl wk _=>?_
  have yu:=yM.grown wk (fun h=>by have:=(hf.own.lt _ h).1;simp at this;omega);have wg:=vg.grown wk vg.size (fun q hq=>Nat.le_trans xj.size (hf.own.lt q hq).1)
  refine hK.out _ _ (fun _=>?_) (fun zy=>?_)
  ·exact⟨yu.cell 0 rfl,yu.cell 2 rfl⟩
  clear hK K;have zy:=zy (by decide)
  try simp only[Act.put,zz4,zz5,zz6]
  refine To 10 rfl fun K hK=>?_
  go_simp
  refine hK.out _ _ (fun h=>absurd rfl h) (fun _=>?_)
  clear hK K
  try simp only[Act.put,zz4,zz5,zz6]
  refine Ways.done (by kernel_rfl) ?_
  go_wp2_with fail
  go_ret
  exact⟨_,rfl,by rw[E.out];exact⟨rl,wg⟩⟩
end
theorem YE (x:Itm) (hk:4≤x.kind∧x.kind≤6) (ih:∀ y:Itm,cnt y<cnt x→lZ y):lZ x:=by
 intro H k n ba bl bc ia il ic w lv hg hl hx hH
 obtain⟨rfl,rfl,rfl,rfl,pY⟩:=hx.eqs_;have hx:=pY;have tv:=hx.bounds;have e0:=Xp hg hk;rw[e0,List.length_append]at hl;have HL:=Hh hl;have HG:=Hh hg.items;have rm:=x8 (show vj x lv=true by rcases xL hg.node with ⟨h1,_⟩ | ⟨_,h1⟩;(rw[z8]at h1;omega);exact h1);have hB:=Blk.new w 26 #[.int .i64 x.kind,.int .u64 x.n,.slice ba x.bytes.length bc,.slice ia x.items.length ic];have xj:=zi w (zW x ba bc ia ic);have eV:x.items.length≤9223372036854775807:=by omega
 have HX:=Hh hx;have HN:=Hh tv.2.2.1;clear hl tv rm hg hx
 have three:∃ (q m:Int) (hd:List UInt8) (D:Hid (∀ w1:World,Calls Tryz.prog 52 #[.int .i64 q,.int .u64 m] w1 fun e w'=>∃ r,e=.returned r∧Fresh w1 hd r w')),
   zd x=hd++zB x.items∧((x.kind=4∧q=4∧m=x.items.length)∨(x.kind=5∧q=5∧m=(x.items.length:Int)/2)∨(x.kind=6∧q=6∧m=x.n)):=by
  rcases(by omega:x.kind=4∨x.kind=5∨x.kind=6) with h | h | h
  ·refine⟨4,x.items.length,_,fun w1=>yH 4 _ w1 (by omega) (by omega) (by omega) (by omega), ?_,.inl ⟨h,rfl,rfl⟩⟩
   have:numP x=x.items.length:=by simp[numP,h]
   rw[e0,h,this];rfl
  ·refine⟨5,(x.items.length:Int)/2,_,fun w1=>yH 5 _ w1 (by omega) (by omega) (by omega) (by omega), ?_,.inr (.inl ⟨h,rfl,rfl⟩)⟩
   have:numP x=x.items.length/2:=by simp[numP,h]
   rw[e0,h,this];rfl
  ·refine⟨6,x.n,_,fun w1=>yH 6 _ w1 (by omega) (by omega) (by omega) (by have:=HN.out;omega), ?_,.inr (.inr ⟨h,rfl,rfl⟩)⟩
   have:numP x=x.n:=by simp[numP,h]
   rw[e0,h,this];rfl
 obtain⟨q,m,hd,D,e1,h3⟩:=three;have E:=Hh e1;have rX:hd.length+(zB x.items).length≤1099511627776:=by rw[← List.length_append,← e1,e0,List.length_append];exact HL.out
 have lj:=Hh rX;clear e0 e1 rX HL hk;have KW:IntKind.u64.wrap (x.items.length:Int)=(x.items.length:Int):=IntWalk.u64_in _ (by omega);have KW2:IntKind.u64.wrap ((x.items.length:Int)/2)=(x.items.length:Int)/2:=IntWalk.u64_in _ (by omega)
 rcases h3 with ⟨hk,rfl,rfl⟩ | ⟨hk,rfl,rfl⟩ | ⟨hk,rfl,rfl⟩
 ·obtain⟨b0,b1,b2,b3,b4,b5,b6,b7,b8⟩:=Ya hk;clear hk;go_enter Tryz.func37,Tryz.ntmps37
  go_wp2_with fail
  refine(D.out _).mono ?_
  rintro e w1 ⟨r,rfl,hf⟩
  have yM:=hB.below hf.2;have vg:=xj.trans (hf.2.mono xj.size);have c3:=yM.cell 3 rfl;have pW:=hf.own.more xj.size;obtain⟨RA,rc,rfl,_⟩:=pW.form;clear hf;go_wp2_with fail
  go_loopw [3,69] (fun v3 v69 wr=>∃ (k:Nat) (VA:Option Addr) (vc vn:Nat) (l:List UInt8),k≤x.items.length∧v69=.int .i64 k∧v3=.slice VA vn vc∧OwnB wr w.heap.size (.slice VA vn vc) l∧vn=l.length∧(zd x=l++zB (x.items.drop k))∧Below w.heap.size w wr) (fun _ v69 _=>x.items.length-(intOf v69).toNat)
  case atStart=>exact⟨0,_,_,_,_,Nat.zero_le _,rfl,rfl,pW,rfl,by rw[E.out];rfl,vg⟩
  case round =>
   obtain⟨k,VA,vc,vn,l,so,rfl,rfl,ww,lW,wI,xS⟩:=hrel;have HV:=Hh lW;have HE:=Hh wI;clear lW wI
   by_cases yi:k<x.items.length
   ·have xT:Holds wr H:=hH.below xS (Nat.le_refl _);obtain⟨ib,io,tj,wI⟩:=HX.out.items (by omega);obtain⟨eba,ebc,eia,eic,q0,q1,q2,q3,uU⟩:=wI.get k yi;subst tj;have p0:=xT.cell q0;have p1:=xT.cell q1;have p2:=xT.cell q2;have p3:=xT.cell q3;have tW:zB (x.items.drop k)=zd x.items[k]++zB (x.items.drop (k+1)):=by rw[List.drop_eq_getElem_cons yi,zB]
    have pr:l.length+(zd x.items[k]).length≤1099511627776:=by
     have h1:=lj.out;rw[← List.length_append,← E.out,HE.out,tW]at h1
     simp only[List.length_append]at h1
     omega
    have HF:Hid (zd x=(l++zd x.items[k])++zB (x.items.drop (k+1))):=by rw[Hid,HE.out,tW,List.append_assoc]
    have IHC:=ih x.items[k] (xP x k yi) H _ _ eba _ ebc eia _ eic (wr.alloc (.cells #[.int .i64 x.items[k].kind,.int .u64 x.items[k].n,.slice eba x.items[k].bytes.length ebc,.slice eia x.items[k].items.length eic] 26)) (lv+1)
     (HG.out.get _ (List.getElem_mem yi)) (by omega) uU.arg (xT.alloc _)
    have IHH:=Hh IHC;have xe:=xS.alloc xS.size (zW x.items[k] eba ebc eia eic);have s9:=ww.alloc (zW x.items[k] eba ebc eia eic);clear tW q0 q1 q2 q3 IHC ww;go_wp2_with fail
    refine IHH.out.mono ?_
    rintro e w6 ⟨r6,rfl,rm⟩
    obtain⟨SA,sc,rfl,_⟩:=rm.own.form;have sC:=s9.below rm.2;have wQ:=xe.trans (rm.2.mono xe.size);have mZ:=pr;clear pr;go_wp2_with (at_builtin;refine ye ?_)
    unfold yE
    obtain rfl:=HV.out
    refine zO rfl (.tmp 73) (.tmp 75) rfl w.heap.size _ _ rfl sC SA _ sc (zd x.items[k]) rfl rfl rm.own.src mZ wQ.size fun v' w7 xK hg7 hat7=>?_
    obtain⟨VA',vc',rfl,_⟩:=xK.form;have dj:OwnB w7 w.heap.size (.slice VA' (l.length+(zd x.items[k]).length) vc') (l++zd x.items[k]):=by rw[← List.length_append];exact xK
    have wj:=wQ.grown hg7 wQ.size (fun q hq=>(sC.lt q hq).1);clear mZ sC xK hg7 hat7 rm IHH p0 p1 p2 p3 s9 xe wQ xS;go_wp2_with fail
    go_roundw
    case rel=>exact⟨k+1,VA',vc',_,_,by omega,by go_num,rfl,dj,by rw[List.length_append],HF.out,wj⟩
    case measure=>simp[intOf];omega
   ·have eW:k=x.items.length:=by omega
    subst eW;have HZ:Hid (zd x=l):=by rw[Hid,HE.out,List.drop_length,zB,List.append_nil]
    go_wp2_with fail
    go_ret
    obtain rfl:=HV.out
    exact⟨_,rfl,by rw[HZ.out];exact⟨ww,xS⟩⟩
 ·obtain⟨b0,b1,b2,b3,b4,b5,b6,b7,b8⟩:=Yb hk;clear hk;go_enter Tryz.func37,Tryz.ntmps37
  go_wp2_with fail
  refine(D.out _).mono ?_
  rintro e w1 ⟨r,rfl,hf⟩
  have yM:=hB.below hf.2;have vg:=xj.trans (hf.2.mono xj.size);have c3:=yM.cell 3 rfl;have pW:=hf.own.more xj.size;obtain⟨RA,rc,rfl,_⟩:=pW.form;clear hf;go_wp2_with fail
  go_loopw [3,69] (fun v3 v69 wr=>∃ (k:Nat) (VA:Option Addr) (vc vn:Nat) (l:List UInt8),k≤x.items.length∧v69=.int .i64 k∧v3=.slice VA vn vc∧OwnB wr w.heap.size (.slice VA vn vc) l∧vn=l.length∧(zd x=l++zB (x.items.drop k))∧Below w.heap.size w wr) (fun _ v69 _=>x.items.length-(intOf v69).toNat)
  case atStart=>exact⟨0,_,_,_,_,Nat.zero_le _,rfl,rfl,pW,rfl,by rw[E.out];rfl,vg⟩
  case round =>
   obtain⟨k,VA,vc,vn,l,so,rfl,rfl,ww,lW,wI,xS⟩:=hrel;have HV:=Hh lW;have HE:=Hh wI;clear lW wI
   by_cases yi:k<x.items.length
   ·have xT:Holds wr H:=hH.below xS (Nat.le_refl _);obtain⟨ib,io,tj,wI⟩:=HX.out.items (by omega);obtain⟨eba,ebc,eia,eic,q0,q1,q2,q3,uU⟩:=wI.get k yi;subst tj;have p0:=xT.cell q0;have p1:=xT.cell q1;have p2:=xT.cell q2;have p3:=xT.cell q3;have tW:zB (x.items.drop k)=zd x.items[k]++zB (x.items.drop (k+1)):=by rw[List.drop_eq_getElem_cons yi,zB]
    have pr:l.length+(zd x.items[k]).length≤1099511627776:=by
     have h1:=lj.out;rw[← List.length_append,← E.out,HE.out,tW]at h1
     simp only[List.length_append]at h1
     omega
    have HF:Hid (zd x=(l++zd x.items[k])++zB (x.items.drop (k+1))):=by rw[Hid,HE.out,tW,List.append_assoc]
    have IHC:=ih x.items[k] (xP x k yi) H _ _ eba _ ebc eia _ eic (wr.alloc (.cells #[.int .i64 x.items[k].kind,.int .u64 x.items[k].n,.slice eba x.items[k].bytes.length ebc,.slice eia x.items[k].items.length eic] 26)) (lv+1)
     (HG.out.get _ (List.getElem_mem yi)) (by omega) uU.arg (xT.alloc _)
    have IHH:=Hh IHC;have xe:=xS.alloc xS.size (zW x.items[k] eba ebc eia eic);have s9:=ww.alloc (zW x.items[k] eba ebc eia eic);clear tW q0 q1 q2 q3 IHC ww;go_wp2_with fail
    refine IHH.out.mono ?_
    rintro e w6 ⟨r6,rfl,rm⟩
    obtain⟨SA,sc,rfl,_⟩:=rm.own.form;have sC:=s9.below rm.2;have wQ:=xe.trans (rm.2.mono xe.size);have mZ:=pr;clear pr;go_wp2_with (at_builtin;refine ye ?_)
    unfold yE
    obtain rfl:=HV.out
    refine zO rfl (.tmp 73) (.tmp 75) rfl w.heap.size _ _ rfl sC SA _ sc (zd x.items[k]) rfl rfl rm.own.src mZ wQ.size fun v' w7 xK hg7 hat7=>?_
    obtain⟨VA',vc',rfl,_⟩:=xK.form;have dj:OwnB w7 w.heap.size (.slice VA' (l.length+(zd x.items[k]).length) vc') (l++zd x.items[k]):=by rw[← List.length_append];exact xK
    have wj:=wQ.grown hg7 wQ.size (fun q hq=>(sC.lt q hq).1);clear mZ sC xK hg7 hat7 rm IHH p0 p1 p2 p3 s9 xe wQ xS;go_wp2_with fail
    go_roundw
    case rel=>exact⟨k+1,VA',vc',_,_,by omega,by go_num,rfl,dj,by rw[List.length_append],HF.out,wj⟩
    case measure=>simp[intOf];omega
   ·have eW:k=x.items.length:=by omega
    subst eW;have HZ:Hid (zd x=l):=by rw[Hid,HE.out,List.drop_length,zB,List.append_nil]
    go_wp2_with fail
    go_ret
    obtain rfl:=HV.out
    exact⟨_,rfl,by rw[HZ.out];exact⟨ww,xS⟩⟩
 ·obtain⟨b0,b1,b2,b3,b4,b5,b6,b7,b8⟩:=Yc hk;clear hk;go_enter Tryz.func37,Tryz.ntmps37
  go_wp2_with fail
  refine(D.out _).mono ?_
  rintro e w1 ⟨r,rfl,hf⟩
  have yM:=hB.below hf.2;have vg:=xj.trans (hf.2.mono xj.size);have c3:=yM.cell 3 rfl;have pW:=hf.own.more xj.size;obtain⟨RA,rc,rfl,_⟩:=pW.form;clear hf;go_wp2_with fail
  go_loopw [3,69] (fun v3 v69 wr=>∃ (k:Nat) (VA:Option Addr) (vc vn:Nat) (l:List UInt8),k≤x.items.length∧v69=.int .i64 k∧v3=.slice VA vn vc∧OwnB wr w.heap.size (.slice VA vn vc) l∧vn=l.length∧(zd x=l++zB (x.items.drop k))∧Below w.heap.size w wr) (fun _ v69 _=>x.items.length-(intOf v69).toNat)
  case atStart=>exact⟨0,_,_,_,_,Nat.zero_le _,rfl,rfl,pW,rfl,by rw[E.out];rfl,vg⟩
  case round =>
   obtain⟨k,VA,vc,vn,l,so,rfl,rfl,ww,lW,wI,xS⟩:=hrel;have HV:=Hh lW;have HE:=Hh wI;clear lW wI
   by_cases yi:k<x.items.length
   ·have xT:Holds wr H:=hH.below xS (Nat.le_refl _);obtain⟨ib,io,tj,wI⟩:=HX.out.items (by omega);obtain⟨eba,ebc,eia,eic,q0,q1,q2,q3,uU⟩:=wI.get k yi;subst tj;have p0:=xT.cell q0;have p1:=xT.cell q1;have p2:=xT.cell q2;have p3:=xT.cell q3;have tW:zB (x.items.drop k)=zd x.items[k]++zB (x.items.drop (k+1)):=by rw[List.drop_eq_getElem_cons yi,zB]
    have pr:l.length+(zd x.items[k]).length≤1099511627776:=by
     have h1:=lj.out;rw[← List.length_append,← E.out,HE.out,tW]at h1
     simp only[List.length_append]at h1
     omega
    have HF:Hid (zd x=(l++zd x.items[k])++zB (x.items.drop (k+1))):=by rw[Hid,HE.out,tW,List.append_assoc]
    have IHC:=ih x.items[k] (xP x k yi) H _ _ eba _ ebc eia _ eic (wr.alloc (.cells #[.int .i64 x.items[k].kind,.int .u64 x.items[k].n,.slice eba x.items[k].bytes.length ebc,.slice eia x.items[k].items.length eic] 26)) (lv+1)
     (HG.out.get _ (List.getElem_mem yi)) (by omega) uU.arg (xT.alloc _)
    have IHH:=Hh IHC;have xe:=xS.alloc xS.size (zW x.items[k] eba ebc eia eic);have s9:=ww.alloc (zW x.items[k] eba ebc eia eic);clear tW q0 q1 q2 q3 IHC ww;go_wp2_with fail
    refine IHH.out.mono ?_
    rintro e w6 ⟨r6,rfl,rm⟩
    obtain⟨SA,sc,rfl,_⟩:=rm.own.form;have sC:=s9.below rm.2;have wQ:=xe.trans (rm.2.mono xe.size);have mZ:=pr;clear pr;go_wp2_with (at_builtin;refine ye ?_)
    unfold yE
    obtain rfl:=HV.out
    refine zO rfl (.tmp 73) (.tmp 75) rfl w.heap.size _ _ rfl sC SA _ sc (zd x.items[k]) rfl rfl rm.own.src mZ wQ.size fun v' w7 xK hg7 hat7=>?_
    obtain⟨VA',vc',rfl,_⟩:=xK.form;have dj:OwnB w7 w.heap.size (.slice VA' (l.length+(zd x.items[k]).length) vc') (l++zd x.items[k]):=by rw[← List.length_append];exact xK
    have wj:=wQ.grown hg7 wQ.size (fun q hq=>(sC.lt q hq).1);clear mZ sC xK hg7 hat7 rm IHH p0 p1 p2 p3 s9 xe wQ xS;go_wp2_with fail
    go_roundw
    case rel=>exact⟨k+1,VA',vc',_,_,by omega,by go_num,rfl,dj,by rw[List.length_append],HF.out,wj⟩
    case measure=>simp[intOf];omega
   ·have eW:k=x.items.length:=by omega
    subst eW;have HZ:Hid (zd x=l):=by rw[Hid,HE.out,List.drop_length,zB,List.append_nil]
    go_wp2_with fail
    go_ret
    obtain rfl:=HV.out
    exact⟨_,rfl,by rw[HZ.out];exact⟨ww,xS⟩⟩
theorem vB (x:Itm):lZ x:=by
 have main:∀ N,∀ x:Itm,cnt x≤N→lZ x:=by
  intro N
  induction N with
  | zero =>
   intro x hx
   have:0<cnt x:=by cases x;rw[cnt];omega
   omega
  | succ N ih =>
   intro x hx
   by_cases hk:4≤x.kind∧x.kind≤6
   ·exact YE x hk fun y hy=>ih y (by omega)
   ·intro H k n ba bl bc ia il ic w lv hg hl ha hH
    obtain⟨rfl,rfl,rfl,rfl,hi⟩:=ha.eqs_;have eW:=rp hg.node
    rcases(by omega:(x.kind=0∨x.kind=1)∨(x.kind=2∨x.kind=3)∨x.kind=7∨x.kind=8) with h | h | h | h
    ·exact WI x w lv h hg hi
    ·exact WJ x w lv h hg hl hi hH
    ·exact dM x w lv h hg hi
    ·exact aY x w h hi
 exact main _ x (Nat.le_refl _)
mutual
def Nums:Itm→Prop
 | .mk _ n _ l=>n<18446744073709551616∧NumsL l
def NumsL:List Itm→Prop
 | []=>True
 | x::l=>Nums x∧NumsL l
end
theorem Nums.n_ {x:Itm}(h:Nums x):x.n<18446744073709551616:=by cases x;rw[Nums]at h;exact h.1
theorem Nums.items {x:Itm}(h:Nums x):NumsL x.items:=by cases x;rw[Nums]at h;exact h.2
theorem NumsL.get:∀ {l:List Itm},NumsL l→∀ x∈l,Nums x
 | [],_,x,hx=>by cases hx
 | y::l,h,x,hx=>by
  rw[NumsL]at h
  rcases List.mem_cons.1 hx with rfl | hx
  ·exact h.1
  ·exact h.2.get x hx
mutual
theorem IsItem.nums {H:Snap}:∀ {x:Itm}{ba:Option Addr}{bc:Nat}{ia:Option Addr}{ic:Nat},IsItem H ba bc ia ic x→Nums x
 | .mk k n bs l,ba,bc,ia,ic,h=>by
  rw[IsItem]at h;rw[Nums]
  refine⟨h.1.2.2.1, ?_⟩
  by_cases h0:0<l.length
  ·obtain⟨b,off,_,he⟩:=h.2.2 h0
   exact IsElems.nums he
  ·have:l=[]:=List.eq_nil_of_length_eq_zero (by omega);subst this;rw[NumsL];trivial
theorem IsElems.nums {H:Snap}:∀ {l:List Itm}{b off:Nat},IsElems H b off l→NumsL l
 | [],_,_,_=>by rw[NumsL];trivial
 | x::l,b,off,h=>by
  rw[IsElems]at h;obtain⟨⟨ba,bc,ia,ic,_,_,_,_,hx⟩,hr⟩:=h;rw[NumsL]
  exact⟨IsItem.nums hx,IsElems.nums hr⟩
end
theorem kX:∀ {l:List Itm}{x:Itm},x∈l→cnt x≤wG l
 | [],x,h=>by cases h
 | y::l,x,h=>by
  rw[wG]
  rcases List.mem_cons.1 h with rfl | h
  ·omega
  ·have:=kX h;omega
theorem uI:∀ {l:List Itm}{x:Itm},x∈l→(zd x).length≤(zB l).length
 | [],x,h=>by cases h
 | y::l,x,h=>by
  rw[zB,List.length_append]
  rcases List.mem_cons.1 h with rfl | h
  ·omega
  ·have:=uI h;omega
theorem pg {m x:Itm}(h:yW m=true) (hx:x∈m.items):yW x=true:=by
 rw[uz]at h⊢;obtain⟨h1,h2,h3⟩:=h
 refine⟨(h1.items.get x hx).le (by omega), ?_, ?_⟩
 ·have:=kX hx;have:=pm m;omega
 ·have:=uI hx;have:=na h1.node;omega
theorem Zu {a b:Itm}{l:List Itm}(h:xX (a::b::l)=true):xX l=true:=by
 match l with
 | []=>rfl
 | c::r=>rw[xX,Bool.and_eq_true]at h;exact h.2
end Go.Proofs.YtnlinmoiakgedaaGreatDoor
