/- squeezed. Walks: the references' Raw. Walks: -/
import Derived.Test.YtliomcphdnppnaaGreatDoorK02
set_option linter.unusedVariables false
set_option linter.unusedSimpArgs false
set_option maxRecDepth 100000
set_option maxHeartbeats 3200000
namespace Go.Proofs.YtliomcphdnppnaaGreatDoor
open Go.RowKit
theorem ItemA.eqs_ {H:Snap}{k n:Int}{ba:Option Addr}{bl bc:Nat}{ia:Option Addr}{il ic:Nat}{x:Itm}(h:ItemA H k n ba bl bc ia il ic x):k=x.kind∧n=(x.n:Int)∧bl=x.bytes.length∧il=x.items.length∧IsItem H ba bc ia ic x:=⟨h.1,h.2,h.3,h.4,h.5⟩
theorem Fresh.step {w w1 w2:World}{l:List UInt8}{r:Value}(hb:Below w.heap.size w w1) (h:Fresh w1 l r w2):Fresh w l r w2:=⟨h.own.more hb.size,hb.trans (h.2.mono hb.size)⟩
theorem Fresh.litAt (w:World) (l:List UInt8) (cs:Array Value) (k b:Nat) (hb:b=w.heap.size) (hk:k=l.length) (hm:l.length≤4096) (hc:cs.toList=l.map zv) :
  Fresh w l (.slice (some ⟨b,0,none⟩) k k) (w.alloc (.cells cs 5)):=by
 subst hb
 exact Fresh.lit w l cs k hk hm hc
def lm (x:Itm):Prop:=∀ (H:Snap) (k n:Int) (ba:Option Addr) (bl bc:Nat) (ia:Option Addr) (il ic:Nat) (w:World) (lv:Nat),
 Good x lv→(zh x).length≤1099511627776→ItemA H k n ba bl bc ia il ic x→Holds w H→
 Calls Tryz.prog 112 #[.agg #[.int .i64 k,.int .u64 n,.slice ba bl bc,.slice ia il ic]] w fun e w'=>∃ r,e=.returned r∧Fresh w (zh x) r w'
theorem Ty {x:Itm}{lv:Nat}(h:Good x lv) (hk:x.kind=0∨x.kind=1):zh x=yE x.kind.toNat x.n:=by
 have ho:=h.node
 rcases yU ho with ⟨h1,h2⟩ | ⟨h1,_⟩
 ·have hi:=(xP h1 h2).1;have hb:x.bytes=[]:=by simp[yv,hk]at h2;exact h2.1
  have hn:xi x=x.n:=by unfold xi;rcases hk with h | h <;> simp[h]
  rw[xD,if_neg (by omega),if_neg (by omega),hi,hb,zM,hn]
  simp
 rw[(zL x).2 (by omega)]at h1;cases h1
theorem Tz {x:Itm}{lv:Nat}(h:Good x lv) (hk:x.kind=2∨x.kind=3):zh x=yE x.kind.toNat x.bytes.length++x.bytes:=by
 have ho:=h.node
 rcases yU ho with ⟨h1,h2⟩ | ⟨h1,_⟩
 ·have hi:=(xP h1 h2).1;have hn:xi x=x.bytes.length:=by unfold xi;rw[if_pos hk]
  rw[xD,if_neg (by omega),if_neg (by omega),hi,zM,hn]
  simp
 rw[(zL x).2 (by omega)]at h1;cases h1
theorem Wp {x:Itm}{lv:Nat}(h:Good x lv) (hk:4≤x.kind∧x.kind≤6):zh x=yE x.kind.toNat (xi x)++zM x.items:=by
 have ho:=h.node
 rcases yU ho with ⟨h1,_⟩ | ⟨_,h1⟩
 ·rw[zL]at h1;omega
 have hb:=(xk h1).2.2.2.1;rw[List.length_eq_zero_iff]at hb;rw[xD,if_neg (by omega),if_neg (by omega),hb]
 simp
theorem be {x:Itm}{lv:Nat}(h:Good x lv) (hk:x.kind=7):zh x=if x.n<24 then [u8 (224+x.n)] else [u8 248,u8 x.n]:=by
 have ho:=h.node
 rcases yU ho with ⟨h1,h2⟩ | ⟨h1,_⟩
 ·have hi:=xP h1 h2;have hn:xi x=x.n:=by unfold xi;simp[hk]
  by_cases jW:x.n<24
  ·rw[if_pos jW,xD,if_neg (by omega),if_neg (by omega),hi.1,hi.2 (by omega),zM,hn,yE,if_pos jW,hk];rfl
  rw[if_neg jW,xD,if_neg (by omega),if_pos ⟨hk,by omega⟩]
 rw[(zL x).2 (by omega)]at h1;cases h1
theorem Xj {k:Int}(h:k=0):(k==0)=true∧(k==1)=false∧(k==2)=false∧(k==3)=false∧(k==4)=false∧(k==5)=false∧(k==6)=false∧(k==7)=false∧(k==8)=false:=by
 subst h;decide
theorem Xk {k:Int}(h:k=1):(k==0)=false∧(k==1)=true∧(k==2)=false∧(k==3)=false∧(k==4)=false∧(k==5)=false∧(k==6)=false∧(k==7)=false∧(k==8)=false:=by
 subst h;decide
theorem Xl {k:Int}(h:k=2):(k==0)=false∧(k==1)=false∧(k==2)=true∧(k==3)=false∧(k==4)=false∧(k==5)=false∧(k==6)=false∧(k==7)=false∧(k==8)=false:=by
 subst h;decide
theorem Xm {k:Int}(h:k=3):(k==0)=false∧(k==1)=false∧(k==2)=false∧(k==3)=true∧(k==4)=false∧(k==5)=false∧(k==6)=false∧(k==7)=false∧(k==8)=false:=by
 subst h;decide
theorem Xn {k:Int}(h:k=4):(k==0)=false∧(k==1)=false∧(k==2)=false∧(k==3)=false∧(k==4)=true∧(k==5)=false∧(k==6)=false∧(k==7)=false∧(k==8)=false:=by
 subst h;decide
theorem Xo {k:Int}(h:k=5):(k==0)=false∧(k==1)=false∧(k==2)=false∧(k==3)=false∧(k==4)=false∧(k==5)=true∧(k==6)=false∧(k==7)=false∧(k==8)=false:=by
 subst h;decide
theorem Xp {k:Int}(h:k=6):(k==0)=false∧(k==1)=false∧(k==2)=false∧(k==3)=false∧(k==4)=false∧(k==5)=false∧(k==6)=true∧(k==7)=false∧(k==8)=false:=by
 subst h;decide
theorem Xq {k:Int}(h:k=7):(k==0)=false∧(k==1)=false∧(k==2)=false∧(k==3)=false∧(k==4)=false∧(k==5)=false∧(k==6)=false∧(k==7)=true∧(k==8)=false:=by
 subst h;decide
theorem Xr {k:Int}(h:k=8):(k==0)=false∧(k==1)=false∧(k==2)=false∧(k==3)=false∧(k==4)=false∧(k==5)=false∧(k==6)=false∧(k==7)=false∧(k==8)=true:=by
 subst h;decide
section
variable (x:Itm) {H:Snap} {ba:Option Addr} {bc:Nat} {ia:Option Addr} {ic:Nat} (w:World) (lv:Nat)
theorem UR (hk:x.kind=0∨x.kind=1) (hg:Good x lv) (hx:IsItem H ba bc ia ic x) :
  Calls Tryz.prog 112 #[xq x ba bc ia ic] w fun e w'=>∃ r,e=.returned r∧Fresh w (zh x) r w':=by
 have E:Hid (zh x=yE x.kind.toNat x.n):=Ty hg hk;have h0:0≤x.kind:=by omega
 have h8:x.kind<8:=by omega
 have HN:=Hh hx.bounds.2.2.1;have D:=Hh (pu x.kind (x.n:Int) (w.alloc (zi x ba bc ia ic)) h0 h8 (by omega) (by have:=HN.out;omega));have xz:=zq w (zi x ba bc ia ic);rw[Int.toNat_natCast]at D;clear hx hg h0 h8
 rcases hk with hk | hk
 ·obtain⟨b0,b1,b2,b3,b4,b5,b6,b7,b8⟩:=Xj hk;clear hk;go_enter Tryz.func112,Tryz.ntmps112
  go_wp2_with fail
  refine D.out.mono ?_
  rintro e w1 ⟨r,rfl,hf⟩
  go_wp2_with fail
  go_ret
  exact⟨_,rfl,by rw[E.out];exact hf.step xz⟩
 obtain⟨b0,b1,b2,b3,b4,b5,b6,b7,b8⟩:=Xk hk;clear hk;go_enter Tryz.func112,Tryz.ntmps112
 go_wp2_with fail
 refine D.out.mono ?_
 rintro e w1 ⟨r,rfl,hf⟩
 go_wp2_with fail
 go_ret
 exact⟨_,rfl,by rw[E.out];exact hf.step xz⟩
theorem cR (hk:x.kind=7) (hg:Good x lv) (hx:IsItem H ba bc ia ic x) :
  Calls Tryz.prog 112 #[xq x ba bc ia ic] w fun e w'=>∃ r,e=.returned r∧Fresh w (zh x) r w':=by
 have E0:=be hg hk;have HN:=Hh hx.bounds.2.2.1;have xz:=zq w (zi x ba bc ia ic);obtain⟨b0,b1,b2,b3,b4,b5,b6,b7,b8⟩:=Xq hk;clear hx hg hk
 by_cases jW:x.n<24
 ·rw[if_pos jW]at E0;have E:=Hh E0;have hi:(x.n:Int)<24:=by omega
  clear E0;go_enter Tryz.func112,Tryz.ntmps112
  go_wp2_with fail
  go_ret
  refine⟨_,rfl, ?_⟩
  rw[E.out]
  refine(Fresh.litAt (w.alloc (zi x ba bc ia ic)) [u8 (224+x.n)] _ 1 _ (by simp) rfl (by simp) ?_).step xz
  simp only[List.map_cons,List.map_nil,xZ]
  congr 2
  omega
 rw[if_neg jW]at E0;have E:=Hh E0;have hi:¬ (x.n:Int)<24:=by omega
 clear E0;go_enter Tryz.func112,Tryz.ntmps112
 go_wp2_with fail
 go_ret
 refine⟨_,rfl, ?_⟩
 rw[E.out]
 refine(Fresh.litAt (w.alloc (zi x ba bc ia ic)) [u8 248,u8 x.n] _ 2 _ (by simp) rfl (by simp) ?_).step xz
 simp only[List.map_cons,List.map_nil,xZ]
 simp
theorem Zb (hk:x.kind=8) (hx:IsItem H ba bc ia ic x) :
  Calls Tryz.prog 112 #[xq x ba bc ia ic] w fun e w'=>∃ r,e=.returned r∧Fresh w (zh x) r w':=by
 have E:Hid (zh x=yI x.n):=by rw[Hid,xD,if_pos hk]
 have D:=Hh (Ze x.n hx.bounds.2.2.1 (w.alloc (zi x ba bc ia ic)));have xz:=zq w (zi x ba bc ia ic);obtain⟨b0,b1,b2,b3,b4,b5,b6,b7,b8⟩:=Xr hk;clear hx hk;go_enter Tryz.func112,Tryz.ntmps112
 go_wp2_with fail
 refine D.out.mono ?_
 rintro e w1 ⟨r,rfl,hf⟩
 go_wp2_with fail
 go_ret
 exact⟨_,rfl,by rw[E.out];exact hf.step xz⟩
theorem US (hk:x.kind=2∨x.kind=3) (hg:Good x lv) (hl:(zh x).length≤1099511627776) (hx:IsItem H ba bc ia ic x) (hH:Holds w H) :
  Calls Tryz.prog 112 #[xq x ba bc ia ic] w fun e w'=>∃ r,e=.returned r∧Fresh w (zh x) r w':=by
 have e0:=Tz hg hk;rw[e0,List.length_append]at hl;have E:=Hh e0;have h0:0≤x.kind:=by omega
 have h8:x.kind<8:=by omega
 have DY:x.bytes.length≤9223372036854775807:=by have:=hx.bounds;omega
 have Pc:x.bytes.length<18446744073709551616:=by omega
 have HL:=Hh Pc;have KW:IntKind.u64.wrap (x.bytes.length:Int)=(x.bytes.length:Int):=IntWalk.u64_in _ (by omega);have D:=fun w1:World=>pu x.kind (x.bytes.length:Int) w1 h0 h8 (by omega) (by have:=HL.out;omega)
 have xz:=(zq w (zi x ba bc ia ic)).drew;have hB:=Blk.new w 26 #[.int .i64 x.kind,.int .u64 x.n,.slice ba x.bytes.length bc,.slice ia x.items.length ic];have hB:=hB.drew;have hs:Src (w.alloc (zi x ba bc ia ic)).drew _ _:=(Src.of_row hx.bytes.row hH).alloc (zi x ba bc ia ic)
 simp only[Int.toNat_natCast]at D
 have DD:=Hh D;clear hg h0 h8 e0 hx D Pc
 rcases hk with hk | hk
 ·obtain⟨b0,b1,b2,b3,b4,b5,b6,b7,b8⟩:=Xl hk;clear hk;go_enter Tryz.func112,Tryz.ntmps112
  go_upto_region 9 with fail
  refine zw 10 (fun w'=>w'.cell? ⟨w.heap.size,0,none⟩=some (.int .i64 x.kind)∧w'.cell? ⟨w.heap.size,2,none⟩=some (.slice ba x.bytes.length bc)) (by kernel_rfl) (⟨hB.cell 0 rfl,hB.cell 2 rfl⟩) (fun zy=>?_)
  refine Tk 0 rfl zy ?_
  refine Tk 1 rfl zy ?_
  refine Tk 2 rfl zy ?_
  refine Tk 3 rfl zy ?_
  refine Tk 4 rfl zy ?_
  refine Tk 5 rfl zy ?_
  refine Tk 7 rfl zy ?_
  refine Tk 8 rfl zy ?_
  refine To 6 rfl fun K hK=>?_
  go_simp
  refine(DD.out _).mono ?_
  rintro e w1 ⟨r,rfl,hf⟩
  have yO:=hB.below hf.2;have vT:=hs.below hf.2;have zH:=xz.trans (hf.2.mono xz.size);have hz:=hf.2.size;obtain⟨RA,rc,rfl,_⟩:=hf.own.form
  refine Ko hK ?_ fun zy=>?_
  ·exact⟨yO.cell 0 rfl,yO.cell 2 rfl⟩
  clear hK K
  refine To 9 rfl fun K hK=>?_
  rw[if_pos (by rfl)]
  refine yG (.tmp 28) (.tmp 30) rfl w.heap.size _ _ rfl (hf.own.more xz.size) _ x.bytes.length _ x.bytes rfl rfl vT (by omega) zH.size fun v' w2 pG qJ _=>?_
  have yV:=yO.grown qJ (fun h=>by have:=(hf.own.lt _ h).1;simp at this;omega);have zG:=zH.grown qJ zH.size (fun q hq=>Nat.le_trans xz.size (hf.own.lt q hq).1)
  refine Ko hK ?_ fun zy=>?_
  ·exact⟨yV.cell 0 rfl,yV.cell 2 rfl⟩
  clear hK K
  refine To 10 rfl fun K hK=>?_
  go_simp
  refine Kz hK ?_
  clear hK K
  refine Wd ?_
  go_wp2_with fail
  go_ret
  exact⟨_,rfl,by rw[E.out];exact⟨pG,zG⟩⟩
 obtain⟨b0,b1,b2,b3,b4,b5,b6,b7,b8⟩:=Xm hk;clear hk;go_enter Tryz.func112,Tryz.ntmps112
 go_upto_region 9 with fail
 refine zw 10 (fun w'=>w'.cell? ⟨w.heap.size,0,none⟩=some (.int .i64 x.kind)∧w'.cell? ⟨w.heap.size,2,none⟩=some (.slice ba x.bytes.length bc)) (by kernel_rfl) (⟨hB.cell 0 rfl,hB.cell 2 rfl⟩) (fun zy=>?_)
 refine Tk 0 rfl zy ?_
 refine Tk 1 rfl zy ?_
 refine Tk 2 rfl zy ?_
 refine Tk 3 rfl zy ?_
 refine Tk 4 rfl zy ?_
 refine Tk 5 rfl zy ?_
 refine Tk 7 rfl zy ?_
 refine Tk 8 rfl zy ?_
 refine To 6 rfl fun K hK=>?_
 go_simp
 refine(DD.out _).mono ?_
 rintro e w1 ⟨r,rfl,hf⟩
 have yO:=hB.below hf.2;have vT:=hs.below hf.2;have zH:=xz.trans (hf.2.mono xz.size);have hz:=hf.2.size;obtain⟨RA,rc,rfl,_⟩:=hf.own.form
 refine Ko hK ?_ fun zy=>?_
 ·exact⟨yO.cell 0 rfl,yO.cell 2 rfl⟩
 clear hK K
 refine To 9 rfl fun K hK=>?_
 rw[if_pos (by rfl)]
 refine yG (.tmp 28) (.tmp 30) rfl w.heap.size _ _ rfl (hf.own.more xz.size) _ x.bytes.length _ x.bytes rfl rfl vT (by omega) zH.size fun v' w2 pG qJ _=>?_
 have yV:=yO.grown qJ (fun h=>by have:=(hf.own.lt _ h).1;simp at this;omega);have zG:=zH.grown qJ zH.size (fun q hq=>Nat.le_trans xz.size (hf.own.lt q hq).1)
 refine Ko hK ?_ fun zy=>?_
 ·exact⟨yV.cell 0 rfl,yV.cell 2 rfl⟩
 clear hK K
 refine To 10 rfl fun K hK=>?_
 go_simp
 refine Kz hK ?_
 clear hK K
 refine Wd ?_
 go_wp2_with fail
 go_ret
 exact⟨_,rfl,by rw[E.out];exact⟨pG,zG⟩⟩
end
theorem XE (x:Itm) (hk:4≤x.kind∧x.kind≤6) (ih:∀ y:Itm,cnt y<cnt x→lm y):lm x:=by
 intro H k n ba bl bc ia il ic w lv hg hl hx hH
 obtain⟨rfl,rfl,rfl,rfl,qf⟩:=hx.eqs_;have hx:=qf;have vG:=hx.bounds;have e0:=Wp hg hk;rw[e0,List.length_append]at hl;have HL:=Hh hl;have HG:=Hh hg.items;have uk:=xk (show vk x lv=true by rcases yU hg.node with ⟨h1,_⟩ | ⟨_,h1⟩;(rw[zL]at h1;omega);exact h1);have hB:=Blk.new w 26 #[.int .i64 x.kind,.int .u64 x.n,.slice ba x.bytes.length bc,.slice ia x.items.length ic];have xz:=zq w (zi x ba bc ia ic);have fg:x.items.length≤9223372036854775807:=by omega
 have HX:=Hh hx;have HN:=Hh vG.2.2.1;clear hl vG uk hg hx
 have three:∃ (q m:Int) (hd:List UInt8) (D:Hid (∀ w1:World,Calls Tryz.prog 141 #[.int .i64 q,.int .u64 m] w1 fun e w'=>∃ r,e=.returned r∧Fresh w1 hd r w')),
   zh x=hd++zM x.items∧((x.kind=4∧q=4∧m=x.items.length)∨(x.kind=5∧q=5∧m=(x.items.length:Int)/2)∨(x.kind=6∧q=6∧m=x.n)):=by
  rcases(by omega:x.kind=4∨x.kind=5∨x.kind=6) with h | h | h
  ·refine⟨4,x.items.length,_,fun w1=>pu 4 _ w1 (by omega) (by omega) (by omega) (by omega), ?_,.inl ⟨h,rfl,rfl⟩⟩
   have:xi x=x.items.length:=by simp[xi,h]
   rw[e0,h,this];rfl
  ·refine⟨5,(x.items.length:Int)/2,_,fun w1=>pu 5 _ w1 (by omega) (by omega) (by omega) (by omega), ?_,.inr (.inl ⟨h,rfl,rfl⟩)⟩
   have:xi x=x.items.length/2:=by simp[xi,h]
   rw[e0,h,this];rfl
  refine⟨6,x.n,_,fun w1=>pu 6 _ w1 (by omega) (by omega) (by omega) (by have:=HN.out;omega), ?_,.inr (.inr ⟨h,rfl,rfl⟩)⟩
  have:xi x=x.n:=by simp[xi,h]
  rw[e0,h,this];rfl
 obtain⟨q,m,hd,D,e1,h3⟩:=three;have E:=Hh e1;have pA:hd.length+(zM x.items).length≤1099511627776:=by rw[← List.length_append,← e1,e0,List.length_append];exact HL.out
 have wJ:=Hh pA;clear e0 e1 pA HL hk;have KW:IntKind.u64.wrap (x.items.length:Int)=(x.items.length:Int):=IntWalk.u64_in _ (by omega);have KW2:IntKind.u64.wrap ((x.items.length:Int)/2)=(x.items.length:Int)/2:=IntWalk.u64_in _ (by omega)
 rcases h3 with ⟨hk,rfl,rfl⟩ | ⟨hk,rfl,rfl⟩ | ⟨hk,rfl,rfl⟩
 ·obtain⟨b0,b1,b2,b3,b4,b5,b6,b7,b8⟩:=Xn hk;clear hk;go_enter Tryz.func112,Tryz.ntmps112
  go_wp2_with fail
  refine(D.out _).mono ?_
  rintro e w1 ⟨r,rfl,hf⟩
  have yO:=hB.below hf.2;have zH:=xz.trans (hf.2.mono xz.size);have c3:=yO.cell 3 rfl;have wK:=hf.own.more xz.size;obtain⟨RA,rc,rfl,_⟩:=wK.form;clear hf;go_wp2_with fail
  go_loopw [3,69] (fun v3 v69 wr=>∃ (k:Nat) (VA:Option Addr) (vc vn:Nat) (l:List UInt8),k≤x.items.length∧v69=.int .i64 k∧v3=.slice VA vn vc∧OwnB wr w.heap.size (.slice VA vn vc) l∧vn=l.length∧(zh x=l++zM (x.items.drop k))∧Below w.heap.size w wr) (fun _ v69 _=>x.items.length-(intOf v69).toNat)
  case atStart=>exact⟨0,_,_,_,_,Nat.zero_le _,rfl,rfl,wK,rfl,by rw[E.out];rfl,zH⟩
  case round =>
  obtain⟨k,VA,vc,vn,l,rO,rfl,rfl,wG,fk,xI,yS⟩:=hrel;have HV:=Hh fk;have HE:=Hh xI;clear fk xI
  by_cases zB:k<x.items.length
  ·have yD:Holds wr H:=hH.below yS (Nat.le_refl _);obtain⟨ib,io,tf,xI⟩:=HX.out.items (by omega);obtain⟨eba,ebc,eia,eic,q0,q1,q2,q3,vW⟩:=xI.get k zB;subst tf;have p0:=yD.cell q0;have p1:=yD.cell q1;have p2:=yD.cell q2;have p3:=yD.cell q3;have ry:zM (x.items.drop k)=zh x.items[k]++zM (x.items.drop (k+1)):=by rw[List.drop_eq_getElem_cons zB,zM]
   have pz:l.length+(zh x.items[k]).length≤1099511627776:=by
    have h1:=wJ.out;rw[← List.length_append,← E.out,HE.out,ry]at h1
    simp only[List.length_append]at h1
    omega
   have HF:Hid (zh x=(l++zh x.items[k])++zM (x.items.drop (k+1))):=by rw[Hid,HE.out,ry,List.append_assoc]
   have IHC:=ih x.items[k] (vx x k zB) H _ _ eba _ ebc eia _ eic (wr.alloc (.cells #[.int .i64 x.items[k].kind,.int .u64 x.items[k].n,.slice eba x.items[k].bytes.length ebc,.slice eia x.items[k].items.length eic] 26)) (lv+1)
    (HG.out.get _ (List.getElem_mem zB)) (by omega) vW.arg (yD.alloc _)
   have IHH:=Hh IHC;have uL:=yS.alloc yS.size (zi x.items[k] eba ebc eia eic);have xS:=wG.alloc (zi x.items[k] eba ebc eia eic);clear ry q0 q1 q2 q3 IHC wG;go_wp2_with fail
   refine IHH.out.mono ?_
   rintro e w6 ⟨r6,rfl,uk⟩
   obtain⟨SA,sc,rfl,_⟩:=uk.own.form;have rq:=xS.below uk.2;have xT:=uL.trans (uk.2.mono uL.size);have mq:=pz;clear pz;go_wp2_with (at_builtin;refine zO ?_)
   unfold yy
   obtain rfl:=HV.out
   refine zn rfl (.tmp 73) (.tmp 75) rfl w.heap.size _ _ rfl rq SA _ sc (zh x.items[k]) rfl rfl uk.own.src mq xT.size fun v' w7 wj xj hat7=>?_
   obtain⟨VA',vc',rfl,_⟩:=wj.form;have dH:OwnB w7 w.heap.size (.slice VA' (l.length+(zh x.items[k]).length) vc') (l++zh x.items[k]):=by rw[← List.length_append];exact wj
   have vh:=xT.grown xj xT.size (fun q hq=>(rq.lt q hq).1);clear mq rq wj xj hat7 uk IHH p0 p1 p2 p3 xS uL xT yS;go_wp2_with fail
   go_roundw
   case rel=>exact⟨k+1,VA',vc',_,_,by omega,by go_num,rfl,dH,by rw[List.length_append],HF.out,vh⟩
   case measure=>simp[intOf];omega
  have ji:k=x.items.length:=by omega
  subst ji;have HZ:Hid (zh x=l):=by rw[Hid,HE.out,List.drop_length,zM,List.append_nil]
  go_wp2_with fail
  go_ret
  obtain rfl:=HV.out
  exact⟨_,rfl,by rw[HZ.out];exact⟨wG,yS⟩⟩
 ·obtain⟨b0,b1,b2,b3,b4,b5,b6,b7,b8⟩:=Xo hk;clear hk;go_enter Tryz.func112,Tryz.ntmps112
  go_wp2_with fail
  refine(D.out _).mono ?_
  rintro e w1 ⟨r,rfl,hf⟩
  have yO:=hB.below hf.2;have zH:=xz.trans (hf.2.mono xz.size);have c3:=yO.cell 3 rfl;have wK:=hf.own.more xz.size;obtain⟨RA,rc,rfl,_⟩:=wK.form;clear hf;go_wp2_with fail
  go_loopw [3,69] (fun v3 v69 wr=>∃ (k:Nat) (VA:Option Addr) (vc vn:Nat) (l:List UInt8),k≤x.items.length∧v69=.int .i64 k∧v3=.slice VA vn vc∧OwnB wr w.heap.size (.slice VA vn vc) l∧vn=l.length∧(zh x=l++zM (x.items.drop k))∧Below w.heap.size w wr) (fun _ v69 _=>x.items.length-(intOf v69).toNat)
  case atStart=>exact⟨0,_,_,_,_,Nat.zero_le _,rfl,rfl,wK,rfl,by rw[E.out];rfl,zH⟩
  case round =>
  obtain⟨k,VA,vc,vn,l,rO,rfl,rfl,wG,fk,xI,yS⟩:=hrel;have HV:=Hh fk;have HE:=Hh xI;clear fk xI
  by_cases zB:k<x.items.length
  ·have yD:Holds wr H:=hH.below yS (Nat.le_refl _);obtain⟨ib,io,tf,xI⟩:=HX.out.items (by omega);obtain⟨eba,ebc,eia,eic,q0,q1,q2,q3,vW⟩:=xI.get k zB;subst tf;have p0:=yD.cell q0;have p1:=yD.cell q1;have p2:=yD.cell q2;have p3:=yD.cell q3;have ry:zM (x.items.drop k)=zh x.items[k]++zM (x.items.drop (k+1)):=by rw[List.drop_eq_getElem_cons zB,zM]
   have pz:l.length+(zh x.items[k]).length≤1099511627776:=by
    have h1:=wJ.out;rw[← List.length_append,← E.out,HE.out,ry]at h1
    simp only[List.length_append]at h1
    omega
   have HF:Hid (zh x=(l++zh x.items[k])++zM (x.items.drop (k+1))):=by rw[Hid,HE.out,ry,List.append_assoc]
   have IHC:=ih x.items[k] (vx x k zB) H _ _ eba _ ebc eia _ eic (wr.alloc (.cells #[.int .i64 x.items[k].kind,.int .u64 x.items[k].n,.slice eba x.items[k].bytes.length ebc,.slice eia x.items[k].items.length eic] 26)) (lv+1)
    (HG.out.get _ (List.getElem_mem zB)) (by omega) vW.arg (yD.alloc _)
   have IHH:=Hh IHC;have uL:=yS.alloc yS.size (zi x.items[k] eba ebc eia eic);have xS:=wG.alloc (zi x.items[k] eba ebc eia eic);clear ry q0 q1 q2 q3 IHC wG;go_wp2_with fail
   refine IHH.out.mono ?_
   rintro e w6 ⟨r6,rfl,uk⟩
   obtain⟨SA,sc,rfl,_⟩:=uk.own.form;have rq:=xS.below uk.2;have xT:=uL.trans (uk.2.mono uL.size);have mq:=pz;clear pz;go_wp2_with (at_builtin;refine zO ?_)
   unfold yy
   obtain rfl:=HV.out
   refine zn rfl (.tmp 73) (.tmp 75) rfl w.heap.size _ _ rfl rq SA _ sc (zh x.items[k]) rfl rfl uk.own.src mq xT.size fun v' w7 wj xj hat7=>?_
   obtain⟨VA',vc',rfl,_⟩:=wj.form;have dH:OwnB w7 w.heap.size (.slice VA' (l.length+(zh x.items[k]).length) vc') (l++zh x.items[k]):=by rw[← List.length_append];exact wj
   have vh:=xT.grown xj xT.size (fun q hq=>(rq.lt q hq).1);clear mq rq wj xj hat7 uk IHH p0 p1 p2 p3 xS uL xT yS;go_wp2_with fail
   go_roundw
   case rel=>exact⟨k+1,VA',vc',_,_,by omega,by go_num,rfl,dH,by rw[List.length_append],HF.out,vh⟩
   case measure=>simp[intOf];omega
  have ji:k=x.items.length:=by omega
  subst ji;have HZ:Hid (zh x=l):=by rw[Hid,HE.out,List.drop_length,zM,List.append_nil]
  go_wp2_with fail
  go_ret
  obtain rfl:=HV.out
  exact⟨_,rfl,by rw[HZ.out];exact⟨wG,yS⟩⟩
 obtain⟨b0,b1,b2,b3,b4,b5,b6,b7,b8⟩:=Xp hk;clear hk;go_enter Tryz.func112,Tryz.ntmps112
 go_wp2_with fail
 refine(D.out _).mono ?_
 rintro e w1 ⟨r,rfl,hf⟩
 have yO:=hB.below hf.2;have zH:=xz.trans (hf.2.mono xz.size);have c3:=yO.cell 3 rfl;have wK:=hf.own.more xz.size;obtain⟨RA,rc,rfl,_⟩:=wK.form;clear hf;go_wp2_with fail
 go_loopw [3,69] (fun v3 v69 wr=>∃ (k:Nat) (VA:Option Addr) (vc vn:Nat) (l:List UInt8),k≤x.items.length∧v69=.int .i64 k∧v3=.slice VA vn vc∧OwnB wr w.heap.size (.slice VA vn vc) l∧vn=l.length∧(zh x=l++zM (x.items.drop k))∧Below w.heap.size w wr) (fun _ v69 _=>x.items.length-(intOf v69).toNat)
 case atStart=>exact⟨0,_,_,_,_,Nat.zero_le _,rfl,rfl,wK,rfl,by rw[E.out];rfl,zH⟩
 case round =>
 obtain⟨k,VA,vc,vn,l,rO,rfl,rfl,wG,fk,xI,yS⟩:=hrel;have HV:=Hh fk;have HE:=Hh xI;clear fk xI
 by_cases zB:k<x.items.length
 ·have yD:Holds wr H:=hH.below yS (Nat.le_refl _);obtain⟨ib,io,tf,xI⟩:=HX.out.items (by omega);obtain⟨eba,ebc,eia,eic,q0,q1,q2,q3,vW⟩:=xI.get k zB;subst tf;have p0:=yD.cell q0;have p1:=yD.cell q1;have p2:=yD.cell q2;have p3:=yD.cell q3;have ry:zM (x.items.drop k)=zh x.items[k]++zM (x.items.drop (k+1)):=by rw[List.drop_eq_getElem_cons zB,zM]
  have pz:l.length+(zh x.items[k]).length≤1099511627776:=by
   have h1:=wJ.out;rw[← List.length_append,← E.out,HE.out,ry]at h1
   simp only[List.length_append]at h1
   omega
  have HF:Hid (zh x=(l++zh x.items[k])++zM (x.items.drop (k+1))):=by rw[Hid,HE.out,ry,List.append_assoc]
  have IHC:=ih x.items[k] (vx x k zB) H _ _ eba _ ebc eia _ eic (wr.alloc (.cells #[.int .i64 x.items[k].kind,.int .u64 x.items[k].n,.slice eba x.items[k].bytes.length ebc,.slice eia x.items[k].items.length eic] 26)) (lv+1)
   (HG.out.get _ (List.getElem_mem zB)) (by omega) vW.arg (yD.alloc _)
  have IHH:=Hh IHC;have uL:=yS.alloc yS.size (zi x.items[k] eba ebc eia eic);have xS:=wG.alloc (zi x.items[k] eba ebc eia eic);clear ry q0 q1 q2 q3 IHC wG;go_wp2_with fail
  refine IHH.out.mono ?_
  rintro e w6 ⟨r6,rfl,uk⟩
  obtain⟨SA,sc,rfl,_⟩:=uk.own.form;have rq:=xS.below uk.2;have xT:=uL.trans (uk.2.mono uL.size);have mq:=pz;clear pz;go_wp2_with (at_builtin;refine zO ?_)
  unfold yy
  obtain rfl:=HV.out
  refine zn rfl (.tmp 73) (.tmp 75) rfl w.heap.size _ _ rfl rq SA _ sc (zh x.items[k]) rfl rfl uk.own.src mq xT.size fun v' w7 wj xj hat7=>?_
  obtain⟨VA',vc',rfl,_⟩:=wj.form;have dH:OwnB w7 w.heap.size (.slice VA' (l.length+(zh x.items[k]).length) vc') (l++zh x.items[k]):=by rw[← List.length_append];exact wj
  have vh:=xT.grown xj xT.size (fun q hq=>(rq.lt q hq).1);clear mq rq wj xj hat7 uk IHH p0 p1 p2 p3 xS uL xT yS;go_wp2_with fail
  go_roundw
  case rel=>exact⟨k+1,VA',vc',_,_,by omega,by go_num,rfl,dH,by rw[List.length_append],HF.out,vh⟩
  case measure=>simp[intOf];omega
 have ji:k=x.items.length:=by omega
 subst ji;have HZ:Hid (zh x=l):=by rw[Hid,HE.out,List.drop_length,zM,List.append_nil]
 go_wp2_with fail
 go_ret
 obtain rfl:=HV.out
 exact⟨_,rfl,by rw[HZ.out];exact⟨wG,yS⟩⟩
theorem sH (x:Itm):lm x:=by
 have main:∀ N,∀ x:Itm,cnt x≤N→lm x:=by
  intro N
  induction N with
  | zero =>
   intro x hx
   have:0<cnt x:=by cases x;rw[cnt];omega
   omega
  | succ N ih =>
  intro x hx
  by_cases hk:4≤x.kind∧x.kind≤6
  ·exact XE x hk fun y hy=>ih y (by omega)
  intro H k n ba bl bc ia il ic w lv hg hl ha hH
  obtain⟨rfl,rfl,rfl,rfl,hi⟩:=ha.eqs_;have ji:=sF hg.node
  rcases(by omega:(x.kind=0∨x.kind=1)∨(x.kind=2∨x.kind=3)∨x.kind=7∨x.kind=8) with h | h | h | h
  ·exact UR x w lv h hg hi
  ·exact US x w lv h hg hl hi hH
  ·exact cR x w lv h hg hi
  exact Zb x w h hi
 exact main _ x (Nat.le_refl _)
end Go.Proofs.YtliomcphdnppnaaGreatDoor
