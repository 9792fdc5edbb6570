/- squeezed. Walks: the references' Raw. Walks: -/
import Derived.Test.YtjpcnhncoidliaaGreatDoorK02
import Derived.Laws.FloatArith
set_option linter.unusedVariables false
set_option linter.unusedSimpArgs false
set_option maxRecDepth 100000
set_option maxHeartbeats 6400000
namespace Go.Proofs.YtjpcnhncoidliaaGreatDoor
open Go.RowKit
theorem ItemA.eqs_ {H:Snap}{k n:Int}{ba:Option Addr}{bl bc:Nat}{ia:Option Addr}{il ic:Nat}{x:Itm}(h:ItemA H k n ba bl bc ia il ic x):k=x.kind∧n=(x.n:Int)∧bl=x.bytes.length∧il=x.items.length∧IsItem H ba bc ia ic x:=⟨h.1,h.2,h.3,h.4,h.5⟩
theorem Fresh.step {w w1 w2:World}{l:List UInt8}{r:Value}(hb:Below w.heap.size w w1) (h:Fresh w1 l r w2):Fresh w l r w2:=⟨h.own.more hb.size,hb.trans (h.2.mono hb.size)⟩
theorem Fresh.litAt (w:World) (l:List UInt8) (cs:Array Value) (k b:Nat) (hb:b=w.heap.size) (hk:k=l.length) (hm:l.length≤4096) (hc:cs.toList=l.map zg) :
  Fresh w l (.slice (some ⟨b,0,none⟩) k k) (w.alloc (.cells cs 5)):=by
 subst hb
 exact Fresh.lit w l cs k hk hm hc
def iP (x:Itm):Prop:=∀ (H:Snap) (k n:Int) (ba:Option Addr) (bl bc:Nat) (ia:Option Addr) (il ic:Nat) (w:World) (lv:Nat),
 Good x lv→(zX x).length≤1099511627776→ItemA H k n ba bl bc ia il ic x→Holds w H→
 Calls Tryz.prog 42 #[.agg #[.int .i64 k,.int .u64 n,.slice ba bl bc,.slice ia il ic]] w fun e w'=>∃ r,e=.returned r∧Fresh w (zX x) r w'
theorem XY {x:Itm}{lv:Nat}(h:Good x lv) (hk:x.kind=0∨x.kind=1):zX x=zj x.kind.toNat x.n:=by
 have ho:=h.node
 rcases wm ho with ⟨h1,h2⟩ | ⟨h1,_⟩
 ·have hi:=(wl h1 h2).1;have hb:x.bytes=[]:=by simp[wo,hk]at h2;exact h2.1
  have hn:tj x=x.n:=by unfold tj;rcases hk with h | h <;> simp[h]
  rw[vh,if_neg (by omega),if_neg (by omega),hi,hb,ym,hn]
  simp
 rw[(yh x).2 (by omega)]at h1;cases h1
theorem dB {x:Itm}{lv:Nat}(h:Good x lv) (hk:x.kind=2∨x.kind=3):zX x=zj x.kind.toNat x.bytes.length++x.bytes:=by
 have ho:=h.node
 rcases wm ho with ⟨h1,h2⟩ | ⟨h1,_⟩
 ·have hi:=(wl h1 h2).1;have hn:tj x=x.bytes.length:=by unfold tj;rw[if_pos hk]
  rw[vh,if_neg (by omega),if_neg (by omega),hi,ym,hn]
  simp
 rw[(yh x).2 (by omega)]at h1;cases h1
theorem al {x:Itm}{lv:Nat}(h:Good x lv) (hk:4≤x.kind∧x.kind≤6):zX x=zj x.kind.toNat (tj x)++ym x.items:=by
 have ho:=h.node
 rcases wm ho with ⟨h1,_⟩ | ⟨_,h1⟩
 ·rw[yh]at h1;omega
 have hb:=(vS h1).2.2.2.1;rw[List.length_eq_zero_iff]at hb;rw[vh,if_neg (by omega),if_neg (by omega),hb]
 simp
theorem YC {x:Itm}{lv:Nat}(h:Good x lv) (hk:x.kind=7):zX x=if x.n<24 then [u8 (224+x.n)] else [u8 248,u8 x.n]:=by
 have ho:=h.node
 rcases wm ho with ⟨h1,h2⟩ | ⟨h1,_⟩
 ·have hi:=wl h1 h2;have hn:tj x=x.n:=by unfold tj;simp[hk]
  by_cases n9:x.n<24
  ·rw[if_pos n9,vh,if_neg (by omega),if_neg (by omega),hi.1,hi.2 (by omega),ym,hn,zj,if_pos n9,hk];rfl
  rw[if_neg n9,vh,if_neg (by omega),if_pos ⟨hk,by omega⟩]
 rw[(yh x).2 (by omega)]at h1;cases h1
theorem Tr {k:Int}(h:k=0):(k==0)=true∧(k==1)=false∧(k==2)=false∧(k==3)=false∧(k==4)=false∧(k==5)=false∧(k==6)=false∧(k==7)=false∧(k==8)=false:=by
 subst h;decide
theorem Ts {k:Int}(h:k=1):(k==0)=false∧(k==1)=true∧(k==2)=false∧(k==3)=false∧(k==4)=false∧(k==5)=false∧(k==6)=false∧(k==7)=false∧(k==8)=false:=by
 subst h;decide
theorem Tt {k:Int}(h:k=2):(k==0)=false∧(k==1)=false∧(k==2)=true∧(k==3)=false∧(k==4)=false∧(k==5)=false∧(k==6)=false∧(k==7)=false∧(k==8)=false:=by
 subst h;decide
theorem Tu {k:Int}(h:k=3):(k==0)=false∧(k==1)=false∧(k==2)=false∧(k==3)=true∧(k==4)=false∧(k==5)=false∧(k==6)=false∧(k==7)=false∧(k==8)=false:=by
 subst h;decide
theorem Tv {k:Int}(h:k=4):(k==0)=false∧(k==1)=false∧(k==2)=false∧(k==3)=false∧(k==4)=true∧(k==5)=false∧(k==6)=false∧(k==7)=false∧(k==8)=false:=by
 subst h;decide
theorem Tw {k:Int}(h:k=5):(k==0)=false∧(k==1)=false∧(k==2)=false∧(k==3)=false∧(k==4)=false∧(k==5)=true∧(k==6)=false∧(k==7)=false∧(k==8)=false:=by
 subst h;decide
theorem Tx {k:Int}(h:k=6):(k==0)=false∧(k==1)=false∧(k==2)=false∧(k==3)=false∧(k==4)=false∧(k==5)=false∧(k==6)=true∧(k==7)=false∧(k==8)=false:=by
 subst h;decide
theorem Ty {k:Int}(h:k=7):(k==0)=false∧(k==1)=false∧(k==2)=false∧(k==3)=false∧(k==4)=false∧(k==5)=false∧(k==6)=false∧(k==7)=true∧(k==8)=false:=by
 subst h;decide
theorem Tz {k:Int}(h:k=8):(k==0)=false∧(k==1)=false∧(k==2)=false∧(k==3)=false∧(k==4)=false∧(k==5)=false∧(k==6)=false∧(k==7)=false∧(k==8)=true:=by
 subst h;decide
section
variable (x:Itm) {H:Snap} {ba:Option Addr} {bc:Nat} {ia:Option Addr} {ic:Nat} (w:World) (lv:Nat)
theorem RL (hk:x.kind=0∨x.kind=1) (hg:Good x lv) (hx:IsItem H ba bc ia ic x) :
  Calls Tryz.prog 42 #[ua x ba bc ia ic] w fun e w'=>∃ r,e=.returned r∧Fresh w (zX x) r w':=by
 have E:Hid (zX x=zj x.kind.toNat x.n):=XY hg hk;have h0:0≤x.kind:=by omega
 have h8:x.kind<8:=by omega
 have HN:=Hh hx.bounds.2.2.1;have D:=Hh (yW x.kind (x.n:Int) (w.alloc (zH x ba bc ia ic)) h0 h8 (by omega) (by have:=HN.out;omega));have yZ:=zl w (zH x ba bc ia ic);rw[Int.toNat_natCast]at D;clear hx hg h0 h8
 rcases hk with hk | hk
 ·obtain⟨b0,b1,b2,b3,b4,b5,b6,b7,b8⟩:=Tr hk;clear hk;go_enter Tryz.func42,Tryz.ntmps42
  go_wp2_with fail
  refine D.out.mono ?_
  rintro e w1 ⟨r,rfl,hf⟩
  go_wp2_with fail
  go_ret
  exact⟨_,rfl,by rw[E.out];exact hf.step yZ⟩
 obtain⟨b0,b1,b2,b3,b4,b5,b6,b7,b8⟩:=Ts hk;clear hk;go_enter Tryz.func42,Tryz.ntmps42
 go_wp2_with fail
 refine D.out.mono ?_
 rintro e w1 ⟨r,rfl,hf⟩
 go_wp2_with fail
 go_ret
 exact⟨_,rfl,by rw[E.out];exact hf.step yZ⟩
theorem Yb (hk:x.kind=7) (hg:Good x lv) (hx:IsItem H ba bc ia ic x) :
  Calls Tryz.prog 42 #[ua x ba bc ia ic] w fun e w'=>∃ r,e=.returned r∧Fresh w (zX x) r w':=by
 have E0:=YC hg hk;have HN:=Hh hx.bounds.2.2.1;have yZ:=zl w (zH x ba bc ia ic);obtain⟨b0,b1,b2,b3,b4,b5,b6,b7,b8⟩:=Ty hk;clear hx hg hk
 by_cases n9:x.n<24
 ·rw[if_pos n9]at E0;have E:=Hh E0;have hi:(x.n:Int)<24:=by omega
  clear E0;go_enter Tryz.func42,Tryz.ntmps42
  go_wp2_with fail
  go_ret
  refine⟨_,rfl, ?_⟩
  rw[E.out]
  refine(Fresh.litAt (w.alloc (zH x ba bc ia ic)) [u8 (224+x.n)] _ 1 _ (by simp) rfl (by simp) ?_).step yZ
  simp only[List.map_cons,List.map_nil,vk]
  congr 2
  omega
 rw[if_neg n9]at E0;have E:=Hh E0;have hi:¬ (x.n:Int)<24:=by omega
 clear E0;go_enter Tryz.func42,Tryz.ntmps42
 go_wp2_with fail
 go_ret
 refine⟨_,rfl, ?_⟩
 rw[E.out]
 refine(Fresh.litAt (w.alloc (zH x ba bc ia ic)) [u8 248,u8 x.n] _ 2 _ (by simp) rfl (by simp) ?_).step yZ
 simp only[List.map_cons,List.map_nil,vk]
 simp
theorem WR (hk:x.kind=8) (hx:IsItem H ba bc ia ic x) :
  Calls Tryz.prog 42 #[ua x ba bc ia ic] w fun e w'=>∃ r,e=.returned r∧Fresh w (zX x) r w':=by
 have E:Hid (zX x=xt x.n):=by rw[Hid,vh,if_pos hk]
 have D:=Hh (nM x.n hx.bounds.2.2.1 (w.alloc (zH x ba bc ia ic)));have yZ:=zl w (zH x ba bc ia ic);obtain⟨b0,b1,b2,b3,b4,b5,b6,b7,b8⟩:=Tz hk;clear hx hk;go_enter Tryz.func42,Tryz.ntmps42
 go_wp2_with fail
 refine D.out.mono ?_
 rintro e w1 ⟨r,rfl,hf⟩
 go_wp2_with fail
 go_ret
 exact⟨_,rfl,by rw[E.out];exact hf.step yZ⟩
theorem RM (hk:x.kind=2∨x.kind=3) (hg:Good x lv) (hl:(zX x).length≤1099511627776) (hx:IsItem H ba bc ia ic x) (hH:Holds w H) :
  Calls Tryz.prog 42 #[ua x ba bc ia ic] w fun e w'=>∃ r,e=.returned r∧Fresh w (zX x) r w':=by
 have e0:=dB hg hk;rw[e0,List.length_append]at hl;have E:=Hh e0;have h0:0≤x.kind:=by omega
 have h8:x.kind<8:=by omega
 have Bm:x.bytes.length≤9223372036854775807:=by have:=hx.bounds;omega
 have Fv:x.bytes.length<18446744073709551616:=by omega
 have HL:=Hh Fv;have KW:IntKind.u64.wrap (x.bytes.length:Int)=(x.bytes.length:Int):=IntWalk.u64_in _ (by omega);have D:=fun w1:World=>yW x.kind (x.bytes.length:Int) w1 h0 h8 (by omega) (by have:=HL.out;omega)
 have yZ:=(zl w (zH x ba bc ia ic)).drew;have hB:=Blk.new w 78 #[.int .i64 x.kind,.int .u64 x.n,.slice ba x.bytes.length bc,.slice ia x.items.length ic];have hB:=hB.drew;have hs:Src (w.alloc (zH x ba bc ia ic)).drew _ _:=(Src.of_row hx.bytes.row hH).alloc (zH x ba bc ia ic)
 simp only[Int.toNat_natCast]at D
 have DD:=Hh D;clear hg h0 h8 e0 hx D Fv
 rcases hk with hk | hk
 ·obtain⟨b0,b1,b2,b3,b4,b5,b6,b7,b8⟩:=Tt hk;clear hk;go_enter Tryz.func42,Tryz.ntmps42
  go_upto_region 9 with fail
  refine zn 10 (fun w'=>w'.cell? ⟨w.heap.size,0,none⟩=some (.int .i64 x.kind)∧w'.cell? ⟨w.heap.size,2,none⟩=some (.slice ba x.bytes.length bc)) (by kernel_rfl) (⟨hB.cell 0 rfl,hB.cell 2 rfl⟩) (fun zy=>?_)
  refine Tk 0 rfl zy ?_
  refine Tk 1 rfl zy ?_
  refine Tk 2 rfl zy ?_
  refine Tk 3 rfl zy ?_
  refine Tk 4 rfl zy ?_
  refine Tk 5 rfl zy ?_
  refine Tk 7 rfl zy ?_
  refine Tk 8 rfl zy ?_
  refine To 6 rfl fun K hK=>?_
  go_simp
  refine(DD.out _).mono ?_
  rintro e w1 ⟨r,rfl,hf⟩
  have rZ:=hB.below hf.2;have ug:=hs.below hf.2;have zP:=yZ.trans (hf.2.mono yZ.size);have hz:=hf.2.size;obtain⟨RA,rc,rfl,_⟩:=hf.own.form
  refine Ko hK ?_ fun zy=>?_
  ·exact⟨rZ.cell 0 rfl,rZ.cell 2 rfl⟩
  clear hK K
  refine To 9 rfl fun K hK=>?_
  rw[if_pos (by rfl)]
  refine wD (.tmp 28) (.tmp 30) rfl w.heap.size _ _ rfl (hf.own.more yZ.size) _ x.bytes.length _ x.bytes rfl rfl ug (by omega) zP.size fun v' w2 tl hg2 _=>?_
  have vE:=rZ.grown hg2 (fun h=>by have:=(hf.own.lt _ h).1;simp at this;omega);have yz:=zP.grown hg2 zP.size (fun q hq=>Nat.le_trans yZ.size (hf.own.lt q hq).1)
  refine Ko hK ?_ fun zy=>?_
  ·exact⟨vE.cell 0 rfl,vE.cell 2 rfl⟩
  clear hK K
  refine To 10 rfl fun K hK=>?_
  go_simp
  refine Kz hK ?_
  clear hK K
  refine Wd ?_
  go_wp2_with fail
  go_ret
  exact⟨_,rfl,by rw[E.out];exact⟨tl,yz⟩⟩
 obtain⟨b0,b1,b2,b3,b4,b5,b6,b7,b8⟩:=Tu hk;clear hk;go_enter Tryz.func42,Tryz.ntmps42
 go_upto_region 9 with fail
 refine zn 10 (fun w'=>w'.cell? ⟨w.heap.size,0,none⟩=some (.int .i64 x.kind)∧w'.cell? ⟨w.heap.size,2,none⟩=some (.slice ba x.bytes.length bc)) (by kernel_rfl) (⟨hB.cell 0 rfl,hB.cell 2 rfl⟩) (fun zy=>?_)
 refine Tk 0 rfl zy ?_
 refine Tk 1 rfl zy ?_
 refine Tk 2 rfl zy ?_
 refine Tk 3 rfl zy ?_
 refine Tk 4 rfl zy ?_
 refine Tk 5 rfl zy ?_
 refine Tk 7 rfl zy ?_
 refine Tk 8 rfl zy ?_
 refine To 6 rfl fun K hK=>?_
 go_simp
 refine(DD.out _).mono ?_
 rintro e w1 ⟨r,rfl,hf⟩
 have rZ:=hB.below hf.2;have ug:=hs.below hf.2;have zP:=yZ.trans (hf.2.mono yZ.size);have hz:=hf.2.size;obtain⟨RA,rc,rfl,_⟩:=hf.own.form
 refine Ko hK ?_ fun zy=>?_
 ·exact⟨rZ.cell 0 rfl,rZ.cell 2 rfl⟩
 clear hK K
 refine To 9 rfl fun K hK=>?_
 rw[if_pos (by rfl)]
 refine wD (.tmp 28) (.tmp 30) rfl w.heap.size _ _ rfl (hf.own.more yZ.size) _ x.bytes.length _ x.bytes rfl rfl ug (by omega) zP.size fun v' w2 tl hg2 _=>?_
 have vE:=rZ.grown hg2 (fun h=>by have:=(hf.own.lt _ h).1;simp at this;omega);have yz:=zP.grown hg2 zP.size (fun q hq=>Nat.le_trans yZ.size (hf.own.lt q hq).1)
 refine Ko hK ?_ fun zy=>?_
 ·exact⟨vE.cell 0 rfl,vE.cell 2 rfl⟩
 clear hK K
 refine To 10 rfl fun K hK=>?_
 go_simp
 refine Kz hK ?_
 clear hK K
 refine Wd ?_
 go_wp2_with fail
 go_ret
 exact⟨_,rfl,by rw[E.out];exact⟨tl,yz⟩⟩
end
theorem TT (x:Itm) (hk:4≤x.kind∧x.kind≤6) (ih:∀ y:Itm,cnt y<cnt x→iP y):iP x:=by
 intro H k n ba bl bc ia il ic w lv hg hl hx hH
 obtain⟨rfl,rfl,rfl,rfl,mh⟩:=hx.eqs_;have hx:=mh;have t6:=hx.bounds;have e0:=al hg hk;rw[e0,List.length_append]at hl;have HL:=Hh hl;have HG:=Hh hg.items;have vu:=vS (show vV x lv=true by rcases wm hg.node with ⟨h1,_⟩ | ⟨_,h1⟩;(rw[yh]at h1;omega);exact h1);have hB:=Blk.new w 78 #[.int .i64 x.kind,.int .u64 x.n,.slice ba x.bytes.length bc,.slice ia x.items.length ic];have yZ:=zl w (zH x ba bc ia ic);have rC:x.items.length≤9223372036854775807:=by omega
 have HX:=Hh hx;have HN:=Hh t6.2.2.1;clear hl t6 vu hg hx
 have three:∃ (q m:Int) (hd:List UInt8) (D:Hid (∀ w1:World,Calls Tryz.prog 61 #[.int .i64 q,.int .u64 m] w1 fun e w'=>∃ r,e=.returned r∧Fresh w1 hd r w')),
   zX x=hd++ym x.items∧((x.kind=4∧q=4∧m=x.items.length)∨(x.kind=5∧q=5∧m=(x.items.length:Int)/2)∨(x.kind=6∧q=6∧m=x.n)):=by
  rcases(by omega:x.kind=4∨x.kind=5∨x.kind=6) with h | h | h
  ·refine⟨4,x.items.length,_,fun w1=>yW 4 _ w1 (by omega) (by omega) (by omega) (by omega), ?_,.inl ⟨h,rfl,rfl⟩⟩
   have:tj x=x.items.length:=by simp[tj,h]
   rw[e0,h,this];rfl
  ·refine⟨5,(x.items.length:Int)/2,_,fun w1=>yW 5 _ w1 (by omega) (by omega) (by omega) (by omega), ?_,.inr (.inl ⟨h,rfl,rfl⟩)⟩
   have:tj x=x.items.length/2:=by simp[tj,h]
   rw[e0,h,this];rfl
  refine⟨6,x.n,_,fun w1=>yW 6 _ w1 (by omega) (by omega) (by omega) (by have:=HN.out;omega), ?_,.inr (.inr ⟨h,rfl,rfl⟩)⟩
  have:tj x=x.n:=by simp[tj,h]
  rw[e0,h,this];rfl
 obtain⟨q,m,hd,D,e1,h3⟩:=three;have E:=Hh e1;have te:hd.length+(ym x.items).length≤1099511627776:=by rw[← List.length_append,← e1,e0,List.length_append];exact HL.out
 have dZ:=Hh te;clear e0 e1 te HL hk;have KW:IntKind.u64.wrap (x.items.length:Int)=(x.items.length:Int):=IntWalk.u64_in _ (by omega);have KW2:IntKind.u64.wrap ((x.items.length:Int)/2)=(x.items.length:Int)/2:=IntWalk.u64_in _ (by omega)
 rcases h3 with ⟨hk,rfl,rfl⟩ | ⟨hk,rfl,rfl⟩ | ⟨hk,rfl,rfl⟩
 ·obtain⟨b0,b1,b2,b3,b4,b5,b6,b7,b8⟩:=Tv hk;clear hk;go_enter Tryz.func42,Tryz.ntmps42
  go_wp2_with fail
  refine(D.out _).mono ?_
  rintro e w1 ⟨r,rfl,hf⟩
  have rZ:=hB.below hf.2;have zP:=yZ.trans (hf.2.mono yZ.size);have c3:=rZ.cell 3 rfl;have yp:=hf.own.more yZ.size;obtain⟨RA,rc,rfl,_⟩:=yp.form;clear hf;go_wp2_with fail
  go_loopw [3,69] (fun v3 v69 wr=>∃ (k:Nat) (VA:Option Addr) (vc vn:Nat) (l:List UInt8),k≤x.items.length∧v69=.int .i64 k∧v3=.slice VA vn vc∧OwnB wr w.heap.size (.slice VA vn vc) l∧vn=l.length∧(zX x=l++ym (x.items.drop k))∧Below w.heap.size w wr) (fun _ v69 _=>x.items.length-(intOf v69).toNat)
  case atStart=>exact⟨0,_,_,_,_,Nat.zero_le _,rfl,rfl,yp,rfl,by rw[E.out];rfl,zP⟩
  case round =>
  obtain⟨k,VA,vc,vn,l,sX,rfl,rfl,vf,mg,vI,yE⟩:=hrel;have HV:=Hh mg;have HE:=Hh vI;clear mg vI
  by_cases yy:k<x.items.length
  ·have xD:Holds wr H:=hH.below yE (Nat.le_refl _);obtain⟨ib,io,qI,vI⟩:=HX.out.items (by omega);obtain⟨eba,ebc,eia,eic,q0,q1,q2,q3,qh⟩:=vI.get k yy;subst qI;have p0:=xD.cell q0;have p1:=xD.cell q1;have p2:=xD.cell q2;have p3:=xD.cell q3;have i9:ym (x.items.drop k)=zX x.items[k]++ym (x.items.drop (k+1)):=by rw[List.drop_eq_getElem_cons yy,ym]
   have jM:l.length+(zX x.items[k]).length≤1099511627776:=by
    have h1:=dZ.out;rw[← List.length_append,← E.out,HE.out,i9]at h1
    simp only[List.length_append]at h1
    omega
   have HF:Hid (zX x=(l++zX x.items[k])++ym (x.items.drop (k+1))):=by rw[Hid,HE.out,i9,List.append_assoc]
   have IHC:=ih x.items[k] (wu x k yy) H _ _ eba _ ebc eia _ eic (wr.alloc (.cells #[.int .i64 x.items[k].kind,.int .u64 x.items[k].n,.slice eba x.items[k].bytes.length ebc,.slice eia x.items[k].items.length eic] 78)) (lv+1)
    (HG.out.get _ (List.getElem_mem yy)) (by omega) qh.arg (xD.alloc _)
   have IHH:=Hh IHC;have y8:=yE.alloc yE.size (zH x.items[k] eba ebc eia eic);have zB:=vf.alloc (zH x.items[k] eba ebc eia eic);clear i9 q0 q1 q2 q3 IHC vf;go_wp2_with fail
   refine IHH.out.mono ?_
   rintro e w6 ⟨r6,rfl,vu⟩
   obtain⟨SA,sc,rfl,_⟩:=vu.own.form;have qf:=zB.below vu.2;have y9:=y8.trans (vu.2.mono y8.size);have jN:=jM;clear jM;go_wp2_with (at_builtin;refine zf ?_)
   unfold zU
   obtain rfl:=HV.out
   refine zv rfl (.tmp 73) (.tmp 75) rfl w.heap.size _ _ rfl qf SA _ sc (zX x.items[k]) rfl rfl vu.own.src jN y9.size fun v' w7 wY hg7 hat7=>?_
   obtain⟨VA',vc',rfl,_⟩:=wY.form;have i7:OwnB w7 w.heap.size (.slice VA' (l.length+(zX x.items[k]).length) vc') (l++zX x.items[k]):=by rw[← List.length_append];exact wY
   have xU:=y9.grown hg7 y9.size (fun q hq=>(qf.lt q hq).1);clear jN qf wY hg7 hat7 vu IHH p0 p1 p2 p3 zB y8 y9 yE;go_wp2_with fail
   go_roundw
   case rel=>exact⟨k+1,VA',vc',_,_,by omega,by go_num,rfl,i7,by rw[List.length_append],HF.out,xU⟩
   case measure=>simp[intOf];omega
  have cG:k=x.items.length:=by omega
  subst cG;have HZ:Hid (zX x=l):=by rw[Hid,HE.out,List.drop_length,ym,List.append_nil]
  go_wp2_with fail
  go_ret
  obtain rfl:=HV.out
  exact⟨_,rfl,by rw[HZ.out];exact⟨vf,yE⟩⟩
 ·obtain⟨b0,b1,b2,b3,b4,b5,b6,b7,b8⟩:=Tw hk;clear hk;go_enter Tryz.func42,Tryz.ntmps42
  go_wp2_with fail
  refine(D.out _).mono ?_
  rintro e w1 ⟨r,rfl,hf⟩
  have rZ:=hB.below hf.2;have zP:=yZ.trans (hf.2.mono yZ.size);have c3:=rZ.cell 3 rfl;have yp:=hf.own.more yZ.size;obtain⟨RA,rc,rfl,_⟩:=yp.form;clear hf;go_wp2_with fail
  go_loopw [3,69] (fun v3 v69 wr=>∃ (k:Nat) (VA:Option Addr) (vc vn:Nat) (l:List UInt8),k≤x.items.length∧v69=.int .i64 k∧v3=.slice VA vn vc∧OwnB wr w.heap.size (.slice VA vn vc) l∧vn=l.length∧(zX x=l++ym (x.items.drop k))∧Below w.heap.size w wr) (fun _ v69 _=>x.items.length-(intOf v69).toNat)
  case atStart=>exact⟨0,_,_,_,_,Nat.zero_le _,rfl,rfl,yp,rfl,by rw[E.out];rfl,zP⟩
  case round =>
  obtain⟨k,VA,vc,vn,l,sX,rfl,rfl,vf,mg,vI,yE⟩:=hrel;have HV:=Hh mg;have HE:=Hh vI;clear mg vI
  by_cases yy:k<x.items.length
  ·have xD:Holds wr H:=hH.below yE (Nat.le_refl _);obtain⟨ib,io,qI,vI⟩:=HX.out.items (by omega);obtain⟨eba,ebc,eia,eic,q0,q1,q2,q3,qh⟩:=vI.get k yy;subst qI;have p0:=xD.cell q0;have p1:=xD.cell q1;have p2:=xD.cell q2;have p3:=xD.cell q3;have i9:ym (x.items.drop k)=zX x.items[k]++ym (x.items.drop (k+1)):=by rw[List.drop_eq_getElem_cons yy,ym]
   have jM:l.length+(zX x.items[k]).length≤1099511627776:=by
    have h1:=dZ.out;rw[← List.length_append,← E.out,HE.out,i9]at h1
    simp only[List.length_append]at h1
    omega
   have HF:Hid (zX x=(l++zX x.items[k])++ym (x.items.drop (k+1))):=by rw[Hid,HE.out,i9,List.append_assoc]
   have IHC:=ih x.items[k] (wu x k yy) H _ _ eba _ ebc eia _ eic (wr.alloc (.cells #[.int .i64 x.items[k].kind,.int .u64 x.items[k].n,.slice eba x.items[k].bytes.length ebc,.slice eia x.items[k].items.length eic] 78)) (lv+1)
    (HG.out.get _ (List.getElem_mem yy)) (by omega) qh.arg (xD.alloc _)
   have IHH:=Hh IHC;have y8:=yE.alloc yE.size (zH x.items[k] eba ebc eia eic);have zB:=vf.alloc (zH x.items[k] eba ebc eia eic);clear i9 q0 q1 q2 q3 IHC vf;go_wp2_with fail
   refine IHH.out.mono ?_
   rintro e w6 ⟨r6,rfl,vu⟩
   obtain⟨SA,sc,rfl,_⟩:=vu.own.form;have qf:=zB.below vu.2;have y9:=y8.trans (vu.2.mono y8.size);have jN:=jM;clear jM;go_wp2_with (at_builtin;refine zf ?_)
   unfold zU
   obtain rfl:=HV.out
   refine zv rfl (.tmp 73) (.tmp 75) rfl w.heap.size _ _ rfl qf SA _ sc (zX x.items[k]) rfl rfl vu.own.src jN y9.size fun v' w7 wY hg7 hat7=>?_
   obtain⟨VA',vc',rfl,_⟩:=wY.form;have i7:OwnB w7 w.heap.size (.slice VA' (l.length+(zX x.items[k]).length) vc') (l++zX x.items[k]):=by rw[← List.length_append];exact wY
   have xU:=y9.grown hg7 y9.size (fun q hq=>(qf.lt q hq).1);clear jN qf wY hg7 hat7 vu IHH p0 p1 p2 p3 zB y8 y9 yE;go_wp2_with fail
   go_roundw
   case rel=>exact⟨k+1,VA',vc',_,_,by omega,by go_num,rfl,i7,by rw[List.length_append],HF.out,xU⟩
   case measure=>simp[intOf];omega
  have cG:k=x.items.length:=by omega
  subst cG;have HZ:Hid (zX x=l):=by rw[Hid,HE.out,List.drop_length,ym,List.append_nil]
  go_wp2_with fail
  go_ret
  obtain rfl:=HV.out
  exact⟨_,rfl,by rw[HZ.out];exact⟨vf,yE⟩⟩
 obtain⟨b0,b1,b2,b3,b4,b5,b6,b7,b8⟩:=Tx hk;clear hk;go_enter Tryz.func42,Tryz.ntmps42
 go_wp2_with fail
 refine(D.out _).mono ?_
 rintro e w1 ⟨r,rfl,hf⟩
 have rZ:=hB.below hf.2;have zP:=yZ.trans (hf.2.mono yZ.size);have c3:=rZ.cell 3 rfl;have yp:=hf.own.more yZ.size;obtain⟨RA,rc,rfl,_⟩:=yp.form;clear hf;go_wp2_with fail
 go_loopw [3,69] (fun v3 v69 wr=>∃ (k:Nat) (VA:Option Addr) (vc vn:Nat) (l:List UInt8),k≤x.items.length∧v69=.int .i64 k∧v3=.slice VA vn vc∧OwnB wr w.heap.size (.slice VA vn vc) l∧vn=l.length∧(zX x=l++ym (x.items.drop k))∧Below w.heap.size w wr) (fun _ v69 _=>x.items.length-(intOf v69).toNat)
 case atStart=>exact⟨0,_,_,_,_,Nat.zero_le _,rfl,rfl,yp,rfl,by rw[E.out];rfl,zP⟩
 case round =>
 obtain⟨k,VA,vc,vn,l,sX,rfl,rfl,vf,mg,vI,yE⟩:=hrel;have HV:=Hh mg;have HE:=Hh vI;clear mg vI
 by_cases yy:k<x.items.length
 ·have xD:Holds wr H:=hH.below yE (Nat.le_refl _);obtain⟨ib,io,qI,vI⟩:=HX.out.items (by omega);obtain⟨eba,ebc,eia,eic,q0,q1,q2,q3,qh⟩:=vI.get k yy;subst qI;have p0:=xD.cell q0;have p1:=xD.cell q1;have p2:=xD.cell q2;have p3:=xD.cell q3;have i9:ym (x.items.drop k)=zX x.items[k]++ym (x.items.drop (k+1)):=by rw[List.drop_eq_getElem_cons yy,ym]
  have jM:l.length+(zX x.items[k]).length≤1099511627776:=by
   have h1:=dZ.out;rw[← List.length_append,← E.out,HE.out,i9]at h1
   simp only[List.length_append]at h1
   omega
  have HF:Hid (zX x=(l++zX x.items[k])++ym (x.items.drop (k+1))):=by rw[Hid,HE.out,i9,List.append_assoc]
  have IHC:=ih x.items[k] (wu x k yy) H _ _ eba _ ebc eia _ eic (wr.alloc (.cells #[.int .i64 x.items[k].kind,.int .u64 x.items[k].n,.slice eba x.items[k].bytes.length ebc,.slice eia x.items[k].items.length eic] 78)) (lv+1)
   (HG.out.get _ (List.getElem_mem yy)) (by omega) qh.arg (xD.alloc _)
  have IHH:=Hh IHC;have y8:=yE.alloc yE.size (zH x.items[k] eba ebc eia eic);have zB:=vf.alloc (zH x.items[k] eba ebc eia eic);clear i9 q0 q1 q2 q3 IHC vf;go_wp2_with fail
  refine IHH.out.mono ?_
  rintro e w6 ⟨r6,rfl,vu⟩
  obtain⟨SA,sc,rfl,_⟩:=vu.own.form;have qf:=zB.below vu.2;have y9:=y8.trans (vu.2.mono y8.size);have jN:=jM;clear jM;go_wp2_with (at_builtin;refine zf ?_)
  unfold zU
  obtain rfl:=HV.out
  refine zv rfl (.tmp 73) (.tmp 75) rfl w.heap.size _ _ rfl qf SA _ sc (zX x.items[k]) rfl rfl vu.own.src jN y9.size fun v' w7 wY hg7 hat7=>?_
  obtain⟨VA',vc',rfl,_⟩:=wY.form;have i7:OwnB w7 w.heap.size (.slice VA' (l.length+(zX x.items[k]).length) vc') (l++zX x.items[k]):=by rw[← List.length_append];exact wY
  have xU:=y9.grown hg7 y9.size (fun q hq=>(qf.lt q hq).1);clear jN qf wY hg7 hat7 vu IHH p0 p1 p2 p3 zB y8 y9 yE;go_wp2_with fail
  go_roundw
  case rel=>exact⟨k+1,VA',vc',_,_,by omega,by go_num,rfl,i7,by rw[List.length_append],HF.out,xU⟩
  case measure=>simp[intOf];omega
 have cG:k=x.items.length:=by omega
 subst cG;have HZ:Hid (zX x=l):=by rw[Hid,HE.out,List.drop_length,ym,List.append_nil]
 go_wp2_with fail
 go_ret
 obtain rfl:=HV.out
 exact⟨_,rfl,by rw[HZ.out];exact⟨vf,yE⟩⟩
theorem vW (x:Itm):iP x:=by
 have main:∀ N,∀ x:Itm,cnt x≤N→iP x:=by
  intro N
  induction N with
  | zero =>
   intro x hx
   have:0<cnt x:=by cases x;rw[cnt];omega
   omega
  | succ N ih =>
  intro x hx
  by_cases hk:4≤x.kind∧x.kind≤6
  ·exact TT x hk fun y hy=>ih y (by omega)
  intro H k n ba bl bc ia il ic w lv hg hl ha hH
  obtain⟨rfl,rfl,rfl,rfl,hi⟩:=ha.eqs_;have cG:=j7 hg.node
  rcases(by omega:(x.kind=0∨x.kind=1)∨(x.kind=2∨x.kind=3)∨x.kind=7∨x.kind=8) with h | h | h | h
  ·exact RL x w lv h hg hi
  ·exact RM x w lv h hg hl hi hH
  ·exact Yb x w lv h hg hi
  exact WR x w h hi
 exact main _ x (Nat.le_refl _)
mutual
def fC:Itm→Prop
 | .mk _ n _ l=>n<18446744073709551616∧py l
def py:List Itm→Prop
 | []=>True
 | x::l=>fC x∧py l
end
theorem ag:∀ {l:List Itm}{x:Itm},x∈l→cnt x≤xO l
 | [],x,h=>by cases h
 | y::l,x,h=>by
  rw[xO]
  rcases List.mem_cons.1 h with rfl | h
  ·omega
  have:=ag h;omega
theorem tS:∀ {l:List Itm}{x:Itm},x∈l→(zX x).length≤(ym l).length
 | [],x,h=>by cases h
 | y::l,x,h=>by
  rw[ym,List.length_append]
  rcases List.mem_cons.1 h with rfl | h
  ·omega
  have:=tS h;omega
theorem pw {m x:Itm}(h:yG m=true) (hx:x∈m.items):yG x=true:=by
 rw[vO]at h⊢;obtain⟨h1,h2,h3⟩:=h
 refine⟨(h1.items.get x hx).le (by omega), ?_, ?_⟩
 ·have:=ag hx;have:=ju m;omega
 have:=tS hx;have:=kr h1.node;omega
theorem Vf {a b:Itm}{l:List Itm}(h:xj (a::b::l)=true):xj l=true:=by
 match l with
 | []=>rfl
 | c::r=>rw[xj,Bool.and_eq_true]at h;exact h.2
def UE (n v s x f:Nat):Prop:=s≤1∧v=s*32768+x*1024+f∧f<1024∧x≤31∧
 ((x=31∧f=0∧n=s*9223372036854775808+9218868437227405312)∨(x=0∧f=0∧n=s*9223372036854775808)∨
  (1≤x∧x≤30∧n=s*9223372036854775808+(x+1008)*4503599627370496+f*4398046511104)∨
  (x=0∧∃ t full,t<10∧2 ^ t≤f∧f<2 ^ (t+1)∧full=f*2 ^ (52-t)∧4503599627370496≤full∧n=s*9223372036854775808+(999+t)*4503599627370496+(full-4503599627370496)))
def gz (n v s x f:Nat):Prop:=s≤1∧v=s*2147483648+x*8388608+f∧f<8388608∧x≤255∧
 ((x=255∧f=0∧n=s*9223372036854775808+9218868437227405312)∨(x=0∧f=0∧n=s*9223372036854775808)∨
  (1≤x∧x≤254∧n=s*9223372036854775808+(x+896)*4503599627370496+f*536870912)∨
  (x=0∧∃ t full,t<23∧2 ^ t≤f∧f<2 ^ (t+1)∧full=f*2 ^ (52-t)∧4503599627370496≤full∧n=s*9223372036854775808+(874+t)*4503599627370496+(full-4503599627370496)))
theorem dF {n t:Nat}(h1:2 ^ t≤n) (h2:n<2 ^ (t+1)):n.log2=t:=by
 have hn:n≠0:=by have:=Nat.two_pow_pos t;omega
 have a:=(Nat.le_log2 hn).2 h1;have b:=(Nat.log2_lt hn).2 h2
 omega
theorem jj (neg:Bool) (q d:Nat) (h:d≤(q*2 ^ d).log2+2):Ieee.Toward.even.cut neg (q*2 ^ d) d=q:=by
 have hg:(1:Nat) <<< min d ((q*2 ^ d).log2+2)=2 ^ d:=by rw[Nat.min_eq_left h,Nat.shiftLeft_eq,Nat.one_mul]
 have hp:0<2 ^ d:=Nat.two_pow_pos d;have h1:q*2 ^ d/2 ^ d=q:=Nat.mul_div_cancel _ hp;have h2:q*2 ^ d%2 ^ d=0:=Nat.mul_mod_left _ _
 unfold Ieee.Toward.cut
 simp only[hg,h1,h2]
 have e1:decide (2 ^ d<2*0)=false:=by simp
 have e2:(2 ^ d==2*0)=false:=by rw[beq_eq_false_iff_ne];omega
 rw[e1,e2]
 simp
theorem Yy (s r:Nat) (hs:s≤1):Ieee.double.word (s%2==1) r=s*9223372036854775808+r:=by
 have e:Ieee.double.signWeight=9223372036854775808:=rfl
 unfold Ieee.Format.word
 rcases(by omega:s=0∨s=1) with rfl | rfl <;> simp[e]
theorem dM (s r:Nat) (hs:s≤1):Ieee.single.word (s%2==1) r=s*2147483648+r:=by
 have e:Ieee.single.signWeight=2147483648:=rfl
 unfold Ieee.Format.word
 rcases(by omega:s=0∨s=1) with rfl | rfl <;> simp[e]
theorem U6 {n v s x f:Nat}(h:gz n v s x f):Ieee.single.read v=if x=255 then .infinity (s%2==1) else if x=0 then .number (s%2==1) f (-149) else .number (s%2==1) (8388608+f) ((x:Int)-150):=by
 obtain⟨a1,a2,a3,a4,a5⟩:=h;have e1:Ieee.single.signWeight=2147483648:=rfl;have e2:Ieee.single.binade=8388608:=rfl;have e3:Ieee.single.infRung=2139095040:=rfl;have e4:Ieee.single.leastPlace = -149:=rfl;have hd:v/2147483648=s:=by omega
 have hm:v%2147483648=x*8388608+f:=by omega
 unfold Ieee.Format.read
 rw[e1,e2,e3,e4,hd,hm]
 simp only
 by_cases h0:x=0
 ·rw[if_pos (by omega),if_neg (by omega),if_pos h0,h0];simp
 rw[if_neg (by omega)]
 by_cases h1:x=255
 ·have:f=0:=by omega
  rw[if_neg (by omega),if_pos (by omega),if_pos h1]
 rw[if_pos (by omega),if_neg h1,if_neg h0];congr 1
 ·omega
 omega
theorem Yt {n v s x f:Nat}(h:gz n v s x f):∃ e m,e≤2047∧m<4503599627370496∧n=s*9223372036854775808+e*4503599627370496+m∧
  (x=255→e=2047∧m=0)∧(x=0∧f=0→e=0∧m=0)∧(1≤x∧x≤254→e=x+896∧m=f*536870912)∧(x=0∧0<f→∃ t,t<23∧2 ^ t≤f∧f<2 ^ (t+1)∧e=874+t∧m+4503599627370496=f*2 ^ (52-t))∧
  Ieee.double.read n=if e=2047 then .infinity (s%2==1) else if e=0 then .number (s%2==1) m (-1074) else .number (s%2==1) (4503599627370496+m) ((e:Int)-1075):=by
 obtain⟨a1,a2,a3,a4,a5⟩:=h
 have key:∀ e m,e≤2047→m<4503599627370496→(e=2047→m=0)→n=s*9223372036854775808+e*4503599627370496+m→Ieee.double.read n=if e=2047 then .infinity (s%2==1) else if e=0 then .number (s%2==1) m (-1074) else .number (s%2==1) (4503599627370496+m) ((e:Int)-1075):=by
  intro e m he hm h7 hn
  have e1:Ieee.double.signWeight=9223372036854775808:=rfl;have e2:Ieee.double.binade=4503599627370496:=rfl;have e3:Ieee.double.infRung=9218868437227405312:=rfl;have e4:Ieee.double.leastPlace = -1074:=rfl;have hd:n/9223372036854775808=s:=by omega
  have VE:n%9223372036854775808=e*4503599627370496+m:=by omega
  unfold Ieee.Format.read
  rw[e1,e2,e3,e4,hd,VE]
  simp only
  by_cases h0:e=0
  ·rw[if_pos (by omega),if_neg (by omega),if_pos h0,h0];simp
  rw[if_neg (by omega)]
  by_cases h1:e=2047
  ·have:=h7 h1;rw[if_neg (by omega),if_pos (by omega),if_pos h1]
  rw[if_pos (by omega),if_neg h1,if_neg h0];congr 1
  ·omega
  omega
 rcases a5 with ⟨c1,c2,c3⟩ | ⟨c1,c2,c3⟩ | ⟨c1,c2,c3⟩ | ⟨c1,t,full,c2,c3,c4,c5,c6,c7⟩
 ·exact⟨2047,0,by omega,by omega,by omega,fun _=>⟨rfl,rfl⟩,by omega,by omega,by omega,key 2047 0 (by omega) (by omega) (fun _=>rfl) (by omega)⟩
 ·have C3:n=s*9223372036854775808+0*4503599627370496+0:=by rw[c3];simp only[Nat.zero_mul,Nat.add_zero]
  have C3:=Hh C3;clear c3;have x1:x≠255:=by omega
  have x3:¬ (1≤x∧x≤254):=by omega
  have x4:¬ (x=0∧0<f):=by omega
  exact⟨0,0,by omega,by omega,C3.out,fun h=>absurd h x1,fun _=>⟨rfl,rfl⟩,fun h=>absurd h x3,fun h=>absurd h x4,key 0 0 (by omega) (by omega) (by omega) C3.out⟩
 ·have C3:=Hh c3;clear c3;have t1:x+896≤2047:=by omega
  have t2:x+896≠2047:=by omega
  have m1:f*536870912<4503599627370496:=by omega
  have x1:x≠255:=by omega
  have x2:x≠0:=by omega
  exact⟨x+896,f*536870912,t1,m1,C3.out,fun h=>absurd h x1,fun h=>absurd h.1 x2,fun _=>⟨rfl,rfl⟩,fun h=>absurd h.1 x2,key _ _ t1 m1 (fun h=>absurd h t2) C3.out⟩
 have hp:0<f:=by have:=Nat.two_pow_pos t;omega
 have e2:2 ^ (t+1)*2 ^ (52-t)=9007199254740992:=by
  rw[← Nat.pow_add,show t+1+(52-t)=53 by omega]
 have b2:=Nat.mul_lt_mul_of_pos_right c4 (Nat.two_pow_pos (52-t));rw[e2,← c5]at b2;have C7:=Hh c7;clear c7;have m1:full-4503599627370496<4503599627370496:=by clear a2;omega
 have m2:full-4503599627370496+4503599627370496=f*2 ^ (52-t):=by rw[← c5];clear a2;omega
 have t1:874+t≤2047:=by omega
 have t2:874+t≠2047:=by omega
 have x1:x≠255:=by omega
 have x2:¬ (x=0∧f=0):=by omega
 have x3:¬ (1≤x∧x≤254):=by omega
 exact⟨874+t,full-4503599627370496,t1,m1,C7.out,fun h=>absurd h x1,fun h=>absurd h x2,fun h=>absurd h x3,fun _=>⟨t,c2,c3,c4,rfl,m2⟩,key _ _ t1 m1 (fun h=>absurd h t2) C7.out⟩
theorem Je {n v s x f:Nat}(h:gz n v s x f):floatToFloatBits .f32 v .f64=some n:=by
 have hr:=U6 h;obtain⟨e,m,he,hm,hn,g1,g2,g3,g4,hd⟩:=Yt h;obtain⟨a1,a2,a3,a4,_⟩:=h;have e1:Ieee.double.fractionBits=52:=rfl;have e2:Ieee.double.binade=4503599627370496:=rfl;have e3:Ieee.double.infRung=9218868437227405312:=rfl;have e4:Ieee.double.leastPlace = -1074:=rfl
 have hw:Ieee.double.write (Ieee.single.read v)=n:=by
  rw[hr]
  by_cases h1:x=255
  ·obtain⟨rfl,rfl⟩:=g1 h1;rw[if_pos h1];show Ieee.double.word _ Ieee.double.infRung=n
   rw[Yy _ _ a1,e3];omega
  rw[if_neg h1]
  have near:∀ (mag:Nat) (pl:Int) (t:Nat),t≤52→2 ^ t≤mag→mag<2 ^ (t+1)→-149≤pl→pl≤104→e=(pl+t+1023).toNat→mag*2 ^ (52-t)=4503599627370496+m→Ieee.double.nearest (s%2==1) mag pl=n:=by
   intro mag pl t ht b1 b2 p1 p2 he' VE
   have hl:=dF b1 b2;have h0:mag≠0:=by have:=Nat.two_pow_pos t;omega
   unfold Ieee.Format.nearest
   rw[if_neg h0,hl,e1,e2,e3,e4];have jL:max (pl+(t:Int)-(52:Nat)) (-1074)=pl+t-52:=by omega
   simp only[jL]
   rw[show(pl-(pl+(t:Int)-52)).toNat=52-t by omega,show((pl+(t:Int)-52)-pl).toNat=0 by omega,Nat.shiftLeft_eq,VE];have hc:=jj (s%2==1) (4503599627370496+m) 0 (by omega);rw[Nat.pow_zero,Nat.mul_one]at hc;rw[hc,Yy _ _ a1,Nat.min_eq_left (by omega)]
   omega
  by_cases h2:x=0
  ·rw[if_pos h2]
   by_cases h3:f=0
   ·obtain⟨rfl,rfl⟩:=g2 ⟨h2,h3⟩;subst h3;show Ieee.double.nearest _ 0 _=n
    unfold Ieee.Format.nearest
    rw[if_pos rfl,Yy _ _ a1];omega
   obtain⟨t,t1,t2,t3,t4,t5⟩:=g4 ⟨h2,by omega⟩
   exact near f (-149) t (by omega) t2 t3 (by omega) (by omega) (by omega) (by omega)
  rw[if_neg h2];obtain⟨k1,k2⟩:=g3 ⟨by omega,by omega⟩
  refine near (8388608+f) ((x:Int)-150) 23 (by omega) (by simp) (by simp;omega) (by omega) (by omega) (by omega) ?_
  simp only[Nat.reduceSub,Nat.reducePow]
  omega
 unfold floatToFloatBits
 rw[if_neg (by decide)];show(match Ieee.single.read v with | .nan _ _=>none | .infinity s=>some (Ieee.double.write (.infinity s)) | .number s m e=>if(Ieee.double.read (Ieee.double.write (.number s m e))).isInfinity then none else some (Ieee.double.write (.number s m e)))=some n
 cases hq:Ieee.single.read v with
 | nan a b =>
  rw[hq]at hr
  split at hr
  ·cases hr
  split at hr <;> cases hr
 | infinity q=>simp only;rw[← hq,hw]
 | number a b c =>
 simp only
 rw[← hq,hw]
 have hx:x≠255:=by
  intro h1
  rw[hq,if_pos h1]at hr
  cases hr
 have Dn:e≠2047:=by
  by_cases h2:x=0
  ·by_cases h3:f=0
   ·have:=g2 ⟨h2,h3⟩;omega
   obtain⟨t,t1,t2,t3,t4,t5⟩:=g4 ⟨h2,by omega⟩;omega
  have:=g3 ⟨by omega,by omega⟩;omega
 rw[hd,if_neg Dn]
 by_cases h0:e=0
 ·rw[if_pos h0];rfl
 rw[if_neg h0];rfl
theorem Jd {n v s x f:Nat}(h:gz n v s x f):floatToFloatBits .f64 n .f32=some v:=by
 have hr:=U6 h;obtain⟨e,m,he,hm,hn,g1,g2,g3,g4,hd⟩:=Yt h;obtain⟨a1,a2,a3,a4,_⟩:=h;have e1:Ieee.single.fractionBits=23:=rfl;have e2:Ieee.single.binade=8388608:=rfl;have e3:Ieee.single.infRung=2139095040:=rfl;have e4:Ieee.single.leastPlace = -149:=rfl
 have hw:Ieee.single.write (Ieee.double.read n)=v:=by
  rw[hd]
  by_cases h1:x=255
  ·obtain⟨h5,h6⟩:=g1 h1;rw[if_pos h5];show Ieee.single.word _ Ieee.single.infRung=v
   rw[dM _ _ a1,e3]
   omega
  by_cases h2:x=0
  ·by_cases h3:f=0
   ·obtain⟨h5,h6⟩:=g2 ⟨h2,h3⟩;rw[if_neg (by omega),if_pos h5,h6];show Ieee.single.nearest _ 0 _=v
    unfold Ieee.Format.nearest
    rw[if_pos rfl,dM _ _ a1];omega
   obtain⟨t,t1,t2,t3,t4,t5⟩:=g4 ⟨h2,by omega⟩;rw[if_neg (by omega),if_neg (by omega)];show Ieee.single.nearest _ _ _=v
   have hl:(4503599627370496+m).log2=52:=dF (by simp) (by simp;omega)
   unfold Ieee.Format.nearest
   rw[if_neg (by omega),hl,e1,e2,e3,e4];have jL:max ((e:Int)-1075+(52:Nat)-(23:Nat)) (-149) = -149:=by omega
   simp only[jL]
   rw[show((e:Int)-1075 - -149).toNat=0 by omega,show(-149-((e:Int)-1075)).toNat=52-t by omega,Nat.shiftLeft_eq,Nat.pow_zero,Nat.mul_one,show 4503599627370496+m=f*2 ^ (52-t) by omega];rw[jj _ _ _ (by rw[← t5,Nat.add_comm m,hl];omega),dM _ _ a1,Nat.min_eq_left (by omega)];rw[a2,h2,show((-149:Int) - -149).toNat=0 from rfl]
   simp only[Nat.zero_mul,Nat.zero_add,Nat.add_zero]
  obtain⟨k1,k2⟩:=g3 ⟨by omega,by omega⟩;rw[if_neg (by omega),if_neg (by omega)];show Ieee.single.nearest _ _ _=v
  have hl:(4503599627370496+m).log2=52:=dF (by simp) (by simp;omega)
  unfold Ieee.Format.nearest
  rw[if_neg (by omega),hl,e1,e2,e3,e4];have jL:max ((e:Int)-1075+(52:Nat)-(23:Nat)) (-149)=(e:Int)-1046:=by omega
  simp only[jL]
  have hq:4503599627370496+m=(8388608+f)*2 ^ 29:=by simp only[Nat.reducePow];omega
  rw[show((e:Int)-1075-((e:Int)-1046)).toNat=0 by omega,show(((e:Int)-1046)-((e:Int)-1075)).toNat=29 by omega,Nat.shiftLeft_eq,Nat.pow_zero,Nat.mul_one,hq];rw[jj _ _ _ (by rw[← hq,hl];omega),dM _ _ a1,Nat.min_eq_left (by omega)]
  omega
 unfold floatToFloatBits
 rw[if_neg (by decide)];show(match Ieee.double.read n with | .nan _ _=>none | .infinity s=>some (Ieee.single.write (.infinity s)) | .number s m e=>if(Ieee.single.read (Ieee.single.write (.number s m e))).isInfinity then none else some (Ieee.single.write (.number s m e)))=some v
 cases hq:Ieee.double.read n with
 | nan a b =>
  rw[hq]at hd
  split at hd
  ·cases hd
  split at hd <;> cases hd
 | infinity q=>simp only;rw[← hq,hw]
 | number a b c =>
 simp only
 rw[← hq,hw]
 have hx:x≠255:=by
  intro h1
  have:=g1 h1;rw[hq,if_pos this.1]at hd
  cases hd
 rw[hr,if_neg hx]
 by_cases h0:x=0
 ·rw[if_pos h0];rfl
 rw[if_neg h0];rfl
theorem aD {n v s x f:Nat}(h:gz n v s x f):xL n 8 23=some v:=by
 obtain⟨e,m,he,hm,hn,g1,g2,g3,g4,hd⟩:=Yt h;obtain⟨a1,a2,a3,a4,_⟩:=h;have k1:n/4503599627370496%2048=e:=by omega
 have k2:n%4503599627370496=m:=by omega
 have k3:n/9223372036854775808=s:=by omega
 rw[xL]
 simp only[Nat.reducePow,Nat.reduceSub,Nat.reduceAdd,Nat.reduceMul,k1,k2,k3]
 by_cases h1:x=255
 ·obtain⟨h5,h6⟩:=g1 h1;rw[if_pos h5,if_pos h6];congr 1;omega
 by_cases h2:x=0
 ·by_cases h3:f=0
  ·obtain⟨h5,h6⟩:=g2 ⟨h2,h3⟩;rw[if_neg (by omega),if_pos h5,if_pos h6];congr 1;omega
  obtain⟨t,t1,t2,t3,t4,t5⟩:=g4 ⟨h2,by omega⟩;rw[if_neg (by omega),if_neg (by omega),if_neg (by omega),if_neg (by omega),if_neg (by omega),show 30+(1023-e-127)=52-t by omega,t5,if_pos (Nat.mul_mod_left _ _),Nat.mul_div_cancel _ (Nat.two_pow_pos _)];congr 1;omega
 obtain⟨h5,h6⟩:=g3 ⟨by omega,by omega⟩;rw[if_neg (by omega),if_neg (by omega),if_neg (by omega),if_pos (by omega),if_pos (by omega)];congr 1;omega
def wX:Option Nat→Int
 | none => -1
 | some r=>r
def uY (x:Itm):Prop:=∀ (H:Snap),Tabs H→∀ (k n:Int) (ba:Option Addr) (bl bc:Nat) (ia:Option Addr) (il ic:Nat) (w:World) (c d:Nat),
 ItemA H k n ba bl bc ia il ic x→Holds w H→c≤65536→d≤65536→
 Calls Tryz.prog 94 #[.agg #[.int .i64 k,.int .u64 n,.slice ba bl bc,.slice ia il ic],.int .i64 c,.int .i64 d] w fun e w'=>e=.returned (.int .i64 (wX (zN x c d)))∧Below w.heap.size w w'
theorem Vz (x:Itm) {H:Snap}{ba:Option Addr}{bc:Nat}{ia:Option Addr}{ic:Nat}(w:World) (d:Nat) :
  Calls Tryz.prog 94 #[ua x ba bc ia ic,.int .i64 0,.int .i64 d] w fun e w'=>e=.returned (.int .i64 (wX (zN x 0 d)))∧Below w.heap.size w w':=by
 have E:Hid (zN x 0 d=none):=by rw[Hid,yM,if_pos (by omega)]
 go_enter Tryz.func94,Tryz.ntmps94
 go_wp2_with fail
 go_ret
 exact⟨by rw[E.out];rfl,zl w _⟩
theorem zE {x:Itm}{c d:Nat}(h:zY x d (c-1)=false):zN x c d=none:=by
 rw[yM]
 by_cases h1:c<1
 ·rw[if_pos h1]
 rw[if_neg h1,if_pos h]
theorem rl {x:Itm}{d m:Nat}(hk:x.kind=0∨x.kind=1):zY x d m=true↔x.bytes.length=0∧x.items.length=0:=by
 have hp:=(yh x).2 (by omega)
 unfold zY yF wo
 rw[if_pos hp,if_pos hk]
 simp only[Bool.and_eq_true,List.isEmpty_iff,decide_eq_true_eq,List.length_eq_zero_iff]
 constructor
 ·rintro⟨⟨⟨a,b⟩,_⟩,_⟩;exact⟨a,b⟩
 rintro⟨a,b⟩;exact⟨⟨⟨a,b⟩,by rw[a];simp⟩,by rw[b];simp⟩
theorem iS {x:Itm}{d m:Nat}(hk:x.kind=2):zY x d m=true↔x.n=0∧x.items.length=0∧x.bytes.length≤4096:=by
 have hp:=(yh x).2 (by omega)
 unfold zY yF wo
 rw[if_pos hp,if_neg (by omega),if_pos hk]
 simp only[Bool.and_eq_true,List.isEmpty_iff,decide_eq_true_eq,List.length_eq_zero_iff,beq_iff_eq]
 constructor
 ·rintro⟨⟨⟨a,b⟩,c⟩,_⟩;exact⟨a,b,c⟩
 rintro⟨a,b,c⟩;exact⟨⟨⟨a,b⟩,c⟩,by rw[b];simp⟩
theorem px {x:Itm}{d m:Nat}(hk:x.kind=3):zY x d m=true↔x.n=0∧x.items.length=0∧x.bytes.length≤4096∧Lib.validD x.bytes=true:=by
 have hp:=(yh x).2 (by omega)
 unfold zY yF wo
 rw[if_pos hp,if_neg (by omega),if_neg (by omega),if_pos hk]
 simp only[Bool.and_eq_true,List.isEmpty_iff,decide_eq_true_eq,List.length_eq_zero_iff,beq_iff_eq]
 constructor
 ·rintro⟨⟨⟨⟨a,b⟩,v⟩,c⟩,_⟩;exact⟨a,b,c,v⟩
 rintro⟨a,b,c,v⟩;exact⟨⟨⟨⟨a,b⟩,v⟩,c⟩,by rw[b];simp⟩
theorem iT {x:Itm}{d m:Nat}(hk:x.kind=7):zY x d m=true↔x.bytes.length=0∧x.items.length=0∧(x.n<24∨(32≤x.n∧x.n<256)):=by
 have hp:=(yh x).2 (by omega)
 unfold zY yF wo
 rw[if_pos hp,if_neg (by omega),if_neg (by omega),if_neg (by omega),if_pos hk]
 simp only[Bool.and_eq_true,Bool.or_eq_true,List.isEmpty_iff,decide_eq_true_eq,List.length_eq_zero_iff,beq_iff_eq]
 constructor
 ·rintro⟨⟨⟨⟨a,b⟩,v⟩,_⟩,_⟩;exact⟨a,b,v⟩
 rintro⟨a,b,v⟩;exact⟨⟨⟨⟨a,b⟩,v⟩,by rw[a];simp⟩,by rw[b];simp⟩
theorem vG {x:Itm}{d m:Nat}(hk:x.kind=8):zY x d m=true↔x.bytes.length=0∧x.items.length=0∧(isNaN x.n=false∨x.n=zD):=by
 have hp:=(yh x).2 (by omega)
 unfold zY yF wo
 rw[if_pos hp,if_neg (by omega),if_neg (by omega),if_neg (by omega),if_neg (by omega),if_pos hk]
 simp only[Bool.and_eq_true,Bool.or_eq_true,List.isEmpty_iff,decide_eq_true_eq,List.length_eq_zero_iff,beq_iff_eq,Bool.not_eq_true']
 constructor
 ·rintro⟨⟨⟨⟨a,b⟩,v⟩,_⟩,_⟩;exact⟨a,b,v⟩
 rintro⟨a,b,v⟩;exact⟨⟨⟨⟨a,b⟩,v⟩,by rw[a];simp⟩,by rw[b];simp⟩
theorem zC {x:Itm}{d m:Nat}(hk:4≤x.kind∧x.kind≤6):zY x d m=true↔d<8∧x.bytes.length=0∧(x.kind=6→x.items.length=1)∧(x.kind≠6→x.n=0)∧(x.kind=5→x.items.length%2=0)∧x.items.length≤m:=by
 have hp:¬ xR x=true:=by rw[yh];omega
 unfold zY yF vV
 rw[if_neg hp]
 simp only[Bool.and_eq_true,decide_eq_true_eq]
 constructor
 ·rintro⟨⟨⟨_,_,a,b,c,d,e⟩,_⟩,f⟩;exact⟨a,b,c,d,e,f⟩
 rintro⟨a,b,c,d,e,f⟩;exact⟨⟨⟨hk.1,hk.2,a,b,c,d,e⟩,by omega⟩,f⟩
theorem WF {x:Itm}{d m:Nat}(hk:x.kind<0∨8<x.kind):zY x d m=false:=by
 cases h:zY x d m with
 | false=>rfl
 | true =>
 have:=j7 (gE h).1
 omega
theorem yu {x:Itm}{c d:Nat}(hc:0<c) (h:zY x d (c-1)=true) (h0:x.items.length=0):zN x c d=some (c-1):=by
 rw[List.length_eq_zero_iff]at h0;rw[yM,if_neg (by omega),if_neg (by simp[h]),h0,zI]
 simp only
 rw[if_neg (by rintro⟨_,h⟩;cases h)]
theorem Qw (x:Itm) (hk:x.kind=0) {H:Snap}(hT:Tabs H) (ih:∀ y:Itm,cnt y<cnt x→uY y) {ba:Option Addr}{bc:Nat}{ia:Option Addr}{ic:Nat}(hx:IsItem H ba bc ia ic x) (w:World) (hH:Holds w H) (c d:Nat) (pT:0<c) (hc:c≤65536) (hd:d≤65536) :
  Calls Tryz.prog 94 #[ua x ba bc ia ic,.int .i64 c,.int .i64 d] w fun e w'=>e=.returned (.int .i64 (wX (zN x c d)))∧Below w.heap.size w w':=by
 have HX:=Hh hx;have t6:=hx.bounds;have hB:=Blk.new w 78 #[.int .i64 x.kind,.int .u64 x.n,.slice ba x.bytes.length bc,.slice ia x.items.length ic];have yZ:=zl w (zH x ba bc ia ic);have mZ:((c-1:Nat):Int)=(c:Int)-1:=by omega
 have rM:x.bytes.length≤9223372036854775807:=by omega
 have rC:x.items.length≤9223372036854775807:=by omega
 have HN:=Hh t6.2.2.1;have So:¬ (c:Int)<1:=by omega
 have k0:¬ x.kind<0:=by omega
 have k8:¬ 8<x.kind:=by omega
 have HK:=Hh hk;have qu:=Hh mZ;clear hx t6 mZ;obtain⟨b0,b1,b2,b3,b4,b5,b6,b7,b8⟩:=Tr hk;clear hk
 by_cases zG:x.n=0
 ·have bn00:((x.n:Int) != 0)=false:=by simp[zG]
  have bn01:(x.n=0)=True:=by first | exact eq_true zG | exact eq_false zG
  have wk:=Hh zG;clear zG;go_enter Tryz.func94,Tryz.ntmps94
  go_upto_region 22 with fail
  any_goals
   (have yH:zY x d (c-1)=false:=by
     cases hq:zY x d (c-1) with
     | false=>rfl
     | true=>exact absurd ((rl (.inl HK.out)).1 hq) (by have zG:=wk.out;omega)
    go_ret
    exact⟨by rw[zE yH];rfl,yZ⟩)
  all_goals
   have zQ:zY x d (c-1)=true:=(rl (.inl HK.out)).2 ⟨by omega,by omega⟩;have yK:x.items.length=0:=by have zG:=wk.out;omega
   have hk:=HK.out;have E:Hid (zN x c d=some (c-1)):=yu pT zQ yK;have qJ:¬ (0:Int)<x.items.length:=by omega
   have te:¬ (2:Int)<x.items.length:=by omega
   have HI:=Hh yK;have HC:=Hh zQ;clear yK hk zQ;have c0:=hB.cell 0 rfl;have c3:=hB.cell 3 rfl;go_wp2_with fail
   refine wp_loop_rounds 1 ?_
   rw[rounds_succ];go_wp2_with fail
   refine wp_loop_rounds 1 ?_
   rw[rounds_succ];go_wp2_with fail
   go_ret
   exact⟨by rw[E.out,← qu.out];rfl,yZ⟩
 have bn00:((x.n:Int) != 0)=true:=by simp[zG]
 have bn01:(x.n=0)=False:=by first | exact eq_true zG | exact eq_false zG
 have wk:=Hh zG;clear zG;go_enter Tryz.func94,Tryz.ntmps94
 go_upto_region 22 with fail
 any_goals
  (have yH:zY x d (c-1)=false:=by
    cases hq:zY x d (c-1) with
    | false=>rfl
    | true=>exact absurd ((rl (.inl HK.out)).1 hq) (by have zG:=wk.out;omega)
   go_ret
   exact⟨by rw[zE yH];rfl,yZ⟩)
 all_goals
  have zQ:zY x d (c-1)=true:=(rl (.inl HK.out)).2 ⟨by omega,by omega⟩;have yK:x.items.length=0:=by have zG:=wk.out;omega
  have hk:=HK.out;have E:Hid (zN x c d=some (c-1)):=yu pT zQ yK;have qJ:¬ (0:Int)<x.items.length:=by omega
  have te:¬ (2:Int)<x.items.length:=by omega
  have HI:=Hh yK;have HC:=Hh zQ;clear yK hk zQ;have c0:=hB.cell 0 rfl;have c3:=hB.cell 3 rfl;go_wp2_with fail
  refine wp_loop_rounds 1 ?_
  rw[rounds_succ];go_wp2_with fail
  refine wp_loop_rounds 1 ?_
  rw[rounds_succ];go_wp2_with fail
  go_ret
  exact⟨by rw[E.out,← qu.out];rfl,yZ⟩
theorem Qx (x:Itm) (hk:x.kind=1) {H:Snap}(hT:Tabs H) (ih:∀ y:Itm,cnt y<cnt x→uY y) {ba:Option Addr}{bc:Nat}{ia:Option Addr}{ic:Nat}(hx:IsItem H ba bc ia ic x) (w:World) (hH:Holds w H) (c d:Nat) (pT:0<c) (hc:c≤65536) (hd:d≤65536) :
  Calls Tryz.prog 94 #[ua x ba bc ia ic,.int .i64 c,.int .i64 d] w fun e w'=>e=.returned (.int .i64 (wX (zN x c d)))∧Below w.heap.size w w':=by
 have HX:=Hh hx;have t6:=hx.bounds;have hB:=Blk.new w 78 #[.int .i64 x.kind,.int .u64 x.n,.slice ba x.bytes.length bc,.slice ia x.items.length ic];have yZ:=zl w (zH x ba bc ia ic);have mZ:((c-1:Nat):Int)=(c:Int)-1:=by omega
 have rM:x.bytes.length≤9223372036854775807:=by omega
 have rC:x.items.length≤9223372036854775807:=by omega
 have HN:=Hh t6.2.2.1;have So:¬ (c:Int)<1:=by omega
 have k0:¬ x.kind<0:=by omega
 have k8:¬ 8<x.kind:=by omega
 have HK:=Hh hk;have qu:=Hh mZ;clear hx t6 mZ;obtain⟨b0,b1,b2,b3,b4,b5,b6,b7,b8⟩:=Ts hk;clear hk
 by_cases zG:x.n=0
 ·have bn00:((x.n:Int) != 0)=false:=by simp[zG]
  have bn01:(x.n=0)=True:=by first | exact eq_true zG | exact eq_false zG
  have wk:=Hh zG;clear zG;go_enter Tryz.func94,Tryz.ntmps94
  go_upto_region 22 with fail
  any_goals
   (have yH:zY x d (c-1)=false:=by
     cases hq:zY x d (c-1) with
     | false=>rfl
     | true=>exact absurd ((rl (.inr HK.out)).1 hq) (by have zG:=wk.out;omega)
    go_ret
    exact⟨by rw[zE yH];rfl,yZ⟩)
  all_goals
   have zQ:zY x d (c-1)=true:=(rl (.inr HK.out)).2 ⟨by omega,by omega⟩;have yK:x.items.length=0:=by have zG:=wk.out;omega
   have hk:=HK.out;have E:Hid (zN x c d=some (c-1)):=yu pT zQ yK;have qJ:¬ (0:Int)<x.items.length:=by omega
   have te:¬ (2:Int)<x.items.length:=by omega
   have HI:=Hh yK;have HC:=Hh zQ;clear yK hk zQ;have c0:=hB.cell 0 rfl;have c3:=hB.cell 3 rfl;go_wp2_with fail
   refine wp_loop_rounds 1 ?_
   rw[rounds_succ];go_wp2_with fail
   refine wp_loop_rounds 1 ?_
   rw[rounds_succ];go_wp2_with fail
   go_ret
   exact⟨by rw[E.out,← qu.out];rfl,yZ⟩
 have bn00:((x.n:Int) != 0)=true:=by simp[zG]
 have bn01:(x.n=0)=False:=by first | exact eq_true zG | exact eq_false zG
 have wk:=Hh zG;clear zG;go_enter Tryz.func94,Tryz.ntmps94
 go_upto_region 22 with fail
 any_goals
  (have yH:zY x d (c-1)=false:=by
    cases hq:zY x d (c-1) with
    | false=>rfl
    | true=>exact absurd ((rl (.inr HK.out)).1 hq) (by have zG:=wk.out;omega)
   go_ret
   exact⟨by rw[zE yH];rfl,yZ⟩)
 all_goals
  have zQ:zY x d (c-1)=true:=(rl (.inr HK.out)).2 ⟨by omega,by omega⟩;have yK:x.items.length=0:=by have zG:=wk.out;omega
  have hk:=HK.out;have E:Hid (zN x c d=some (c-1)):=yu pT zQ yK;have qJ:¬ (0:Int)<x.items.length:=by omega
  have te:¬ (2:Int)<x.items.length:=by omega
  have HI:=Hh yK;have HC:=Hh zQ;clear yK hk zQ;have c0:=hB.cell 0 rfl;have c3:=hB.cell 3 rfl;go_wp2_with fail
  refine wp_loop_rounds 1 ?_
  rw[rounds_succ];go_wp2_with fail
  refine wp_loop_rounds 1 ?_
  rw[rounds_succ];go_wp2_with fail
  go_ret
  exact⟨by rw[E.out,← qu.out];rfl,yZ⟩
theorem Qy (x:Itm) (hk:x.kind=2) {H:Snap}(hT:Tabs H) (ih:∀ y:Itm,cnt y<cnt x→uY y) {ba:Option Addr}{bc:Nat}{ia:Option Addr}{ic:Nat}(hx:IsItem H ba bc ia ic x) (w:World) (hH:Holds w H) (c d:Nat) (pT:0<c) (hc:c≤65536) (hd:d≤65536) :
  Calls Tryz.prog 94 #[ua x ba bc ia ic,.int .i64 c,.int .i64 d] w fun e w'=>e=.returned (.int .i64 (wX (zN x c d)))∧Below w.heap.size w w':=by
 have HX:=Hh hx;have t6:=hx.bounds;have hB:=Blk.new w 78 #[.int .i64 x.kind,.int .u64 x.n,.slice ba x.bytes.length bc,.slice ia x.items.length ic];have yZ:=zl w (zH x ba bc ia ic);have mZ:((c-1:Nat):Int)=(c:Int)-1:=by omega
 have rM:x.bytes.length≤9223372036854775807:=by omega
 have rC:x.items.length≤9223372036854775807:=by omega
 have HN:=Hh t6.2.2.1;have So:¬ (c:Int)<1:=by omega
 have k0:¬ x.kind<0:=by omega
 have k8:¬ 8<x.kind:=by omega
 have HK:=Hh hk;have qu:=Hh mZ;clear hx t6 mZ;obtain⟨b0,b1,b2,b3,b4,b5,b6,b7,b8⟩:=Tt hk;clear hk
 by_cases zG:x.n=0
 ·have bn00:((x.n:Int) != 0)=false:=by simp[zG]
  have bn01:(x.n=0)=True:=by first | exact eq_true zG | exact eq_false zG
  have wk:=Hh zG;clear zG;go_enter Tryz.func94,Tryz.ntmps94
  go_upto_region 22 with fail
  any_goals
   (have yH:zY x d (c-1)=false:=by
     cases hq:zY x d (c-1) with
     | false=>rfl
     | true=>exact absurd ((iS HK.out).1 hq) (by have zG:=wk.out;omega)
    go_ret
    exact⟨by rw[zE yH];rfl,yZ⟩)
  all_goals
   have zQ:zY x d (c-1)=true:=(iS HK.out).2 ⟨wk.out,by omega,by omega⟩;have yK:x.items.length=0:=by have zG:=wk.out;omega
   have hk:=HK.out;have E:Hid (zN x c d=some (c-1)):=yu pT zQ yK;have qJ:¬ (0:Int)<x.items.length:=by omega
   have te:¬ (2:Int)<x.items.length:=by omega
   have HI:=Hh yK;have HC:=Hh zQ;clear yK hk zQ;have c0:=hB.cell 0 rfl;have c3:=hB.cell 3 rfl;go_wp2_with fail
   refine wp_loop_rounds 1 ?_
   rw[rounds_succ];go_wp2_with fail
   refine wp_loop_rounds 1 ?_
   rw[rounds_succ];go_wp2_with fail
   go_ret
   exact⟨by rw[E.out,← qu.out];rfl,yZ⟩
 have bn00:((x.n:Int) != 0)=true:=by simp[zG]
 have bn01:(x.n=0)=False:=by first | exact eq_true zG | exact eq_false zG
 have wk:=Hh zG;clear zG;go_enter Tryz.func94,Tryz.ntmps94
 go_upto_region 22 with fail
 any_goals
  (have yH:zY x d (c-1)=false:=by
    cases hq:zY x d (c-1) with
    | false=>rfl
    | true=>exact absurd ((iS HK.out).1 hq) (by have zG:=wk.out;omega)
   go_ret
   exact⟨by rw[zE yH];rfl,yZ⟩)
 all_goals
  have zQ:zY x d (c-1)=true:=(iS HK.out).2 ⟨wk.out,by omega,by omega⟩;have yK:x.items.length=0:=by have zG:=wk.out;omega
  have hk:=HK.out;have E:Hid (zN x c d=some (c-1)):=yu pT zQ yK;have qJ:¬ (0:Int)<x.items.length:=by omega
  have te:¬ (2:Int)<x.items.length:=by omega
  have HI:=Hh yK;have HC:=Hh zQ;clear yK hk zQ;have c0:=hB.cell 0 rfl;have c3:=hB.cell 3 rfl;go_wp2_with fail
  refine wp_loop_rounds 1 ?_
  rw[rounds_succ];go_wp2_with fail
  refine wp_loop_rounds 1 ?_
  rw[rounds_succ];go_wp2_with fail
  go_ret
  exact⟨by rw[E.out,← qu.out];rfl,yZ⟩
theorem R8 (x:Itm) (hk:x.kind=7) {H:Snap}(hT:Tabs H) (ih:∀ y:Itm,cnt y<cnt x→uY y) {ba:Option Addr}{bc:Nat}{ia:Option Addr}{ic:Nat}(hx:IsItem H ba bc ia ic x) (w:World) (hH:Holds w H) (c d:Nat) (pT:0<c) (hc:c≤65536) (hd:d≤65536) :
  Calls Tryz.prog 94 #[ua x ba bc ia ic,.int .i64 c,.int .i64 d] w fun e w'=>e=.returned (.int .i64 (wX (zN x c d)))∧Below w.heap.size w w':=by
 have HX:=Hh hx;have t6:=hx.bounds;have hB:=Blk.new w 78 #[.int .i64 x.kind,.int .u64 x.n,.slice ba x.bytes.length bc,.slice ia x.items.length ic];have yZ:=zl w (zH x ba bc ia ic);have mZ:((c-1:Nat):Int)=(c:Int)-1:=by omega
 have rM:x.bytes.length≤9223372036854775807:=by omega
 have rC:x.items.length≤9223372036854775807:=by omega
 have HN:=Hh t6.2.2.1;have So:¬ (c:Int)<1:=by omega
 have k0:¬ x.kind<0:=by omega
 have k8:¬ 8<x.kind:=by omega
 have HK:=Hh hk;have qu:=Hh mZ;clear hx t6 mZ;obtain⟨b0,b1,b2,b3,b4,b5,b6,b7,b8⟩:=Ty hk;clear hk
 by_cases zG:x.n=0
 ·have bn00:((x.n:Int) != 0)=false:=by simp[zG]
  have bn01:(x.n=0)=True:=by first | exact eq_true zG | exact eq_false zG
  have wk:=Hh zG;clear zG;go_enter Tryz.func94,Tryz.ntmps94
  go_upto_region 22 with fail
  any_goals
   (have yH:zY x d (c-1)=false:=by
     cases hq:zY x d (c-1) with
     | false=>rfl
     | true=>exact absurd ((iT HK.out).1 hq) (by have zG:=wk.out;omega)
    go_ret
    exact⟨by rw[zE yH];rfl,yZ⟩)
  all_goals
   have zQ:zY x d (c-1)=true:=(iT HK.out).2 ⟨by omega,by omega,by have zG:=wk.out;omega⟩;have yK:x.items.length=0:=by have zG:=wk.out;omega
   have hk:=HK.out;have E:Hid (zN x c d=some (c-1)):=yu pT zQ yK;have qJ:¬ (0:Int)<x.items.length:=by omega
   have te:¬ (2:Int)<x.items.length:=by omega
   have HI:=Hh yK;have HC:=Hh zQ;clear yK hk zQ;have c0:=hB.cell 0 rfl;have c3:=hB.cell 3 rfl;go_wp2_with fail
   refine wp_loop_rounds 1 ?_
   rw[rounds_succ];go_wp2_with fail
   refine wp_loop_rounds 1 ?_
   rw[rounds_succ];go_wp2_with fail
   go_ret
   exact⟨by rw[E.out,← qu.out];rfl,yZ⟩
 have bn00:((x.n:Int) != 0)=true:=by simp[zG]
 have bn01:(x.n=0)=False:=by first | exact eq_true zG | exact eq_false zG
 have wk:=Hh zG;clear zG;go_enter Tryz.func94,Tryz.ntmps94
 go_upto_region 22 with fail
 any_goals
  (have yH:zY x d (c-1)=false:=by
    cases hq:zY x d (c-1) with
    | false=>rfl
    | true=>exact absurd ((iT HK.out).1 hq) (by have zG:=wk.out;omega)
   go_ret
   exact⟨by rw[zE yH];rfl,yZ⟩)
 all_goals
  have zQ:zY x d (c-1)=true:=(iT HK.out).2 ⟨by omega,by omega,by have zG:=wk.out;omega⟩;have yK:x.items.length=0:=by have zG:=wk.out;omega
  have hk:=HK.out;have E:Hid (zN x c d=some (c-1)):=yu pT zQ yK;have qJ:¬ (0:Int)<x.items.length:=by omega
  have te:¬ (2:Int)<x.items.length:=by omega
  have HI:=Hh yK;have HC:=Hh zQ;clear yK hk zQ;have c0:=hB.cell 0 rfl;have c3:=hB.cell 3 rfl;go_wp2_with fail
  refine wp_loop_rounds 1 ?_
  rw[rounds_succ];go_wp2_with fail
  refine wp_loop_rounds 1 ?_
  rw[rounds_succ];go_wp2_with fail
  go_ret
  exact⟨by rw[E.out,← qu.out];rfl,yZ⟩
end Go.Proofs.YtjpcnhncoidliaaGreatDoor
