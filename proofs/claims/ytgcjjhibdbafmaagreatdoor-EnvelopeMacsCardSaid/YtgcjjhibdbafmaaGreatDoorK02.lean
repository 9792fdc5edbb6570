/- squeezed. Walks: the references' Raw. Walks: -/
import Derived.Test.YtgcjjhibdbafmaaGreatDoorK01
import Derived.Laws.Externs
import Derived.Laws.FloatArith
set_option linter.unusedVariables false
set_option linter.unusedSimpArgs false
set_option maxRecDepth 100000
set_option maxHeartbeats 3200000
namespace Go.Proofs.YtgcjjhibdbafmaaGreatDoor
open Go.RowKit
theorem ItemA.eqs_ {H:Snap}{k n:Int}{ba:Option Addr}{bl bc:Nat}{ia:Option Addr}{il ic:Nat}{x:Itm}(h:ItemA H k n ba bl bc ia il ic x):k=x.kind∧n=(x.n:Int)∧bl=x.bytes.length∧il=x.items.length∧IsItem H ba bc ia ic x:=⟨h.1,h.2,h.3,h.4,h.5⟩
theorem Fresh.step {w w1 w2:World}{l:List UInt8}{r:Value}(hb:Below w.heap.size w w1) (h:Fresh w1 l r w2):Fresh w l r w2:=⟨h.own.more hb.size,hb.trans (h.2.mono hb.size)⟩
theorem Fresh.litAt (w:World) (l:List UInt8) (cs:Array Value) (k b:Nat) (hb:b=w.heap.size) (hk:k=l.length) (hm:l.length≤4096) (hc:cs.toList=l.map byteV) :
  Fresh w l (.slice (some ⟨b,0,none⟩) k k) (w.alloc (.cells cs 5)):=by
 subst hb
 exact Fresh.lit w l cs k hk hm hc
def RawSaid (x:Itm):Prop:=∀ (H:Snap) (k n:Int) (ba:Option Addr) (bl bc:Nat) (ia:Option Addr) (il ic:Nat) (w:World) (lv:Nat),
 Good x lv→(encB x).length≤1099511627776→ItemA H k n ba bl bc ia il ic x→Holds w H→
 Calls Tryz.prog 87 #[.agg #[.int .i64 k,.int .u64 n,.slice ba bl bc,.slice ia il ic]] w fun e w'=>∃ r,e=.returned r∧Fresh w (encB x) r w'
theorem enc_num {x:Itm}{lv:Nat}(h:Good x lv) (hk:x.kind=0∨x.kind=1):encB x=headB x.kind.toNat x.n:=by
 have ho:=h.node
 rcases nodeOk_cases ho with ⟨h1,h2⟩ | ⟨h1,_⟩
 ·have hi:=(okPlain_items h1 h2).1;have hb:x.bytes=[]:=by simp[okPlain,hk]at h2;exact h2.1
  have hn:numP x=x.n:=by unfold numP;rcases hk with h | h <;> simp[h]
  rw[encB_eq,if_neg (by omega),if_neg (by omega),hi,hb,encL,hn]
  simp
 ·rw[(isPlain_iff x).2 (by omega)]at h1;cases h1
theorem enc_str {x:Itm}{lv:Nat}(h:Good x lv) (hk:x.kind=2∨x.kind=3):encB x=headB x.kind.toNat x.bytes.length++x.bytes:=by
 have ho:=h.node
 rcases nodeOk_cases ho with ⟨h1,h2⟩ | ⟨h1,_⟩
 ·have hi:=(okPlain_items h1 h2).1;have hn:numP x=x.bytes.length:=by unfold numP;rw[if_pos hk]
  rw[encB_eq,if_neg (by omega),if_neg (by omega),hi,encL,hn]
  simp
 ·rw[(isPlain_iff x).2 (by omega)]at h1;cases h1
theorem enc_more {x:Itm}{lv:Nat}(h:Good x lv) (hk:4≤x.kind∧x.kind≤6):encB x=headB x.kind.toNat (numP x)++encL x.items:=by
 have ho:=h.node
 rcases nodeOk_cases ho with ⟨h1,_⟩ | ⟨_,h1⟩
 ·rw[isPlain_iff]at h1;omega
 ·have hb:=(frameOk_spec h1).2.2.2.1;rw[List.length_eq_zero_iff]at hb;rw[encB_eq,if_neg (by omega),if_neg (by omega),hb]
  simp
theorem enc_simple {x:Itm}{lv:Nat}(h:Good x lv) (hk:x.kind=7):encB x=if x.n<24 then [u8 (224+x.n)] else [u8 248,u8 x.n]:=by
 have ho:=h.node
 rcases nodeOk_cases ho with ⟨h1,h2⟩ | ⟨h1,_⟩
 ·have hi:=okPlain_items h1 h2;have hn:numP x=x.n:=by unfold numP;simp[hk]
  by_cases h24:x.n<24
  ·rw[if_pos h24,encB_eq,if_neg (by omega),if_neg (by omega),hi.1,hi.2 (by omega),encL,hn,headB,if_pos h24,hk];rfl
  ·rw[if_neg h24,encB_eq,if_neg (by omega),if_pos ⟨hk,by omega⟩]
 ·rw[(isPlain_iff x).2 (by omega)]at h1;cases h1
theorem kinds0 {k:Int}(h:k=0):(k==0)=true∧(k==1)=false∧(k==2)=false∧(k==3)=false∧(k==4)=false∧(k==5)=false∧(k==6)=false∧(k==7)=false∧(k==8)=false:=by
 subst h;decide
theorem kinds1 {k:Int}(h:k=1):(k==0)=false∧(k==1)=true∧(k==2)=false∧(k==3)=false∧(k==4)=false∧(k==5)=false∧(k==6)=false∧(k==7)=false∧(k==8)=false:=by
 subst h;decide
theorem kinds2 {k:Int}(h:k=2):(k==0)=false∧(k==1)=false∧(k==2)=true∧(k==3)=false∧(k==4)=false∧(k==5)=false∧(k==6)=false∧(k==7)=false∧(k==8)=false:=by
 subst h;decide
theorem kinds3 {k:Int}(h:k=3):(k==0)=false∧(k==1)=false∧(k==2)=false∧(k==3)=true∧(k==4)=false∧(k==5)=false∧(k==6)=false∧(k==7)=false∧(k==8)=false:=by
 subst h;decide
theorem kinds4 {k:Int}(h:k=4):(k==0)=false∧(k==1)=false∧(k==2)=false∧(k==3)=false∧(k==4)=true∧(k==5)=false∧(k==6)=false∧(k==7)=false∧(k==8)=false:=by
 subst h;decide
theorem kinds5 {k:Int}(h:k=5):(k==0)=false∧(k==1)=false∧(k==2)=false∧(k==3)=false∧(k==4)=false∧(k==5)=true∧(k==6)=false∧(k==7)=false∧(k==8)=false:=by
 subst h;decide
theorem kinds6 {k:Int}(h:k=6):(k==0)=false∧(k==1)=false∧(k==2)=false∧(k==3)=false∧(k==4)=false∧(k==5)=false∧(k==6)=true∧(k==7)=false∧(k==8)=false:=by
 subst h;decide
theorem kinds7 {k:Int}(h:k=7):(k==0)=false∧(k==1)=false∧(k==2)=false∧(k==3)=false∧(k==4)=false∧(k==5)=false∧(k==6)=false∧(k==7)=true∧(k==8)=false:=by
 subst h;decide
theorem kinds8 {k:Int}(h:k=8):(k==0)=false∧(k==1)=false∧(k==2)=false∧(k==3)=false∧(k==4)=false∧(k==5)=false∧(k==6)=false∧(k==7)=false∧(k==8)=true:=by
 subst h;decide
section
variable (x:Itm) {H:Snap} {ba:Option Addr} {bc:Nat} {ia:Option Addr} {ic:Nat} (w:World) (lv:Nat)
theorem raw_num (hk:x.kind=0∨x.kind=1) (hg:Good x lv) (hx:IsItem H ba bc ia ic x) :
  Calls Tryz.prog 87 #[itemV x ba bc ia ic] w fun e w'=>∃ r,e=.returned r∧Fresh w (encB x) r w':=by
 have E:Hid (encB x=headB x.kind.toNat x.n):=enc_num hg hk;have h0:0≤x.kind:=by omega
 have h8:x.kind<8:=by omega
 have HN:=Hh hx.bounds.2.2.1;have D:=Hh (ref_Head x.kind (x.n:Int) (w.alloc (itemO x ba bc ia ic)) h0 h8 (by omega) (by have:=HN.out;omega));have hb0:=below_box w (itemO x ba bc ia ic);rw[Int.toNat_natCast]at D;clear hx hg h0 h8
 rcases hk with hk | hk
 ·obtain⟨b0,b1,b2,b3,b4,b5,b6,b7,b8⟩:=kinds0 hk;clear hk;go_enter Tryz.func87,Tryz.ntmps87
  go_wp2_with fail
  refine D.out.mono ?_
  rintro e w1 ⟨r,rfl,hf⟩
  go_wp2_with fail
  go_ret
  exact⟨_,rfl,by rw[E.out];exact hf.step hb0⟩
 ·obtain⟨b0,b1,b2,b3,b4,b5,b6,b7,b8⟩:=kinds1 hk;clear hk;go_enter Tryz.func87,Tryz.ntmps87
  go_wp2_with fail
  refine D.out.mono ?_
  rintro e w1 ⟨r,rfl,hf⟩
  go_wp2_with fail
  go_ret
  exact⟨_,rfl,by rw[E.out];exact hf.step hb0⟩
theorem raw_simple (hk:x.kind=7) (hg:Good x lv) (hx:IsItem H ba bc ia ic x) :
  Calls Tryz.prog 87 #[itemV x ba bc ia ic] w fun e w'=>∃ r,e=.returned r∧Fresh w (encB x) r w':=by
 have E0:=enc_simple hg hk;have HN:=Hh hx.bounds.2.2.1;have hb0:=below_box w (itemO x ba bc ia ic);obtain⟨b0,b1,b2,b3,b4,b5,b6,b7,b8⟩:=kinds7 hk;clear hx hg hk
 by_cases h24:x.n<24
 ·rw[if_pos h24]at E0;have E:=Hh E0;have hi:(x.n:Int)<24:=by omega
  clear E0;go_enter Tryz.func87,Tryz.ntmps87
  go_wp2_with fail
  go_ret
  refine⟨_,rfl, ?_⟩
  rw[E.out]
  refine(Fresh.litAt (w.alloc (itemO x ba bc ia ic)) [u8 (224+x.n)] _ 1 _ (by simp) rfl (by simp) ?_).step hb0
  simp only[List.map_cons,List.map_nil,byteV_u8]
  congr 2
  omega
 ·rw[if_neg h24]at E0;have E:=Hh E0;have hi:¬ (x.n:Int)<24:=by omega
  clear E0;go_enter Tryz.func87,Tryz.ntmps87
  go_wp2_with fail
  go_ret
  refine⟨_,rfl, ?_⟩
  rw[E.out]
  refine(Fresh.litAt (w.alloc (itemO x ba bc ia ic)) [u8 248,u8 x.n] _ 2 _ (by simp) rfl (by simp) ?_).step hb0
  simp only[List.map_cons,List.map_nil,byteV_u8]
  simp
theorem raw_float (hk:x.kind=8) (hx:IsItem H ba bc ia ic x) :
  Calls Tryz.prog 87 #[itemV x ba bc ia ic] w fun e w'=>∃ r,e=.returned r∧Fresh w (encB x) r w':=by
 have E:Hid (encB x=floatB x.n):=by rw[Hid,encB_eq,if_pos hk]
 have D:=Hh (ref_float x.n hx.bounds.2.2.1 (w.alloc (itemO x ba bc ia ic)));have hb0:=below_box w (itemO x ba bc ia ic);obtain⟨b0,b1,b2,b3,b4,b5,b6,b7,b8⟩:=kinds8 hk;clear hx hk;go_enter Tryz.func87,Tryz.ntmps87
 go_wp2_with fail
 refine D.out.mono ?_
 rintro e w1 ⟨r,rfl,hf⟩
 go_wp2_with fail
 go_ret
 exact⟨_,rfl,by rw[E.out];exact hf.step hb0⟩
theorem raw_str (hk:x.kind=2∨x.kind=3) (hg:Good x lv) (hl:(encB x).length≤1099511627776) (hx:IsItem H ba bc ia ic x) (hH:Holds w H) :
  Calls Tryz.prog 87 #[itemV x ba bc ia ic] w fun e w'=>∃ r,e=.returned r∧Fresh w (encB x) r w':=by
 have e0:=enc_str hg hk;rw[e0,List.length_append]at hl;have E:=Hh e0;have h0:0≤x.kind:=by omega
 have h8:x.kind<8:=by omega
 have hlb:x.bytes.length≤9223372036854775807:=by have:=hx.bounds;omega
 have hl':x.bytes.length<18446744073709551616:=by omega
 have HL:=Hh hl';have KW:IntKind.u64.wrap (x.bytes.length:Int)=(x.bytes.length:Int):=IntWalk.u64_in _ (by omega);have D:=fun w1:World=>ref_Head x.kind (x.bytes.length:Int) w1 h0 h8 (by omega) (by have:=HL.out;omega)
 have hb0:=(below_box w (itemO x ba bc ia ic)).drew;have hB:=Blk.new w 26 #[.int .i64 x.kind,.int .u64 x.n,.slice ba x.bytes.length bc,.slice ia x.items.length ic];have hB:=hB.drew;have hs:Src (w.alloc (itemO x ba bc ia ic)).drew _ _:=(Src.of_row hx.bytes.row hH).alloc (itemO x ba bc ia ic)
 simp only[Int.toNat_natCast]at D
 have DD:=Hh D;clear hg h0 h8 e0 hx D hl'
 rcases hk with hk | hk
 ·obtain⟨b0,b1,b2,b3,b4,b5,b6,b7,b8⟩:=kinds2 hk;clear hk;go_enter Tryz.func87,Tryz.ntmps87
  go_upto_region 9 with fail
  refine wp_region_ways 10 (fun w'=>w'.cell? ⟨w.heap.size,0,none⟩=some (.int .i64 x.kind)∧w'.cell? ⟨w.heap.size,2,none⟩=some (.slice ba x.bytes.length bc)) (by kernel_rfl) (⟨hB.cell 0 rfl,hB.cell 2 rfl⟩) (fun hHeld=>?_)
  refine Tk 0 rfl hHeld ?_
  refine Tk 1 rfl hHeld ?_
  refine Tk 2 rfl hHeld ?_
  refine Tk 3 rfl hHeld ?_
  refine Tk 4 rfl hHeld ?_
  refine Tk 5 rfl hHeld ?_
  refine Tk 7 rfl hHeld ?_
  refine Tk 8 rfl hHeld ?_
  refine To 6 rfl fun K hK=>?_
  go_simp
  refine(DD.out _).mono ?_
  rintro e w1 ⟨r,rfl,hf⟩
  have hB1:=hB.below hf.2;have hs1:=hs.below hf.2;have hb1:=hb0.trans (hf.2.mono hb0.size);have hz:=hf.2.size;obtain⟨RA,rc,rfl,_⟩:=hf.own.form
  refine Ko hK ?_ fun hHeld=>?_
  ·exact⟨hB1.cell 0 rfl,hB1.cell 2 rfl⟩
  clear hK K
  refine To 9 rfl fun K hK=>?_
  rw[if_pos (by rfl)]
  refine wp_app_bytes (.tmp 28) (.tmp 30) rfl w.heap.size _ _ rfl (hf.own.more hb0.size) _ x.bytes.length _ x.bytes rfl rfl hs1 (by omega) hb1.size fun v' w2 hO2 hg2 _=>?_
  have hB2:=hB1.grown hg2 (fun h=>by have:=(hf.own.lt _ h).1;simp at this;omega);have hb2:=hb1.grown hg2 hb1.size (fun q hq=>Nat.le_trans hb0.size (hf.own.lt q hq).1)
  refine Ko hK ?_ fun hHeld=>?_
  ·exact⟨hB2.cell 0 rfl,hB2.cell 2 rfl⟩
  clear hK K
  refine To 10 rfl fun K hK=>?_
  go_simp
  refine Kz hK ?_
  clear hK K
  refine Wd ?_
  go_wp2_with fail
  go_ret
  exact⟨_,rfl,by rw[E.out];exact⟨hO2,hb2⟩⟩
 ·obtain⟨b0,b1,b2,b3,b4,b5,b6,b7,b8⟩:=kinds3 hk;clear hk;go_enter Tryz.func87,Tryz.ntmps87
  go_upto_region 9 with fail
  refine wp_region_ways 10 (fun w'=>w'.cell? ⟨w.heap.size,0,none⟩=some (.int .i64 x.kind)∧w'.cell? ⟨w.heap.size,2,none⟩=some (.slice ba x.bytes.length bc)) (by kernel_rfl) (⟨hB.cell 0 rfl,hB.cell 2 rfl⟩) (fun hHeld=>?_)
  refine Tk 0 rfl hHeld ?_
  refine Tk 1 rfl hHeld ?_
  refine Tk 2 rfl hHeld ?_
  refine Tk 3 rfl hHeld ?_
  refine Tk 4 rfl hHeld ?_
  refine Tk 5 rfl hHeld ?_
  refine Tk 7 rfl hHeld ?_
  refine Tk 8 rfl hHeld ?_
  refine To 6 rfl fun K hK=>?_
  go_simp
  refine(DD.out _).mono ?_
  rintro e w1 ⟨r,rfl,hf⟩
  have hB1:=hB.below hf.2;have hs1:=hs.below hf.2;have hb1:=hb0.trans (hf.2.mono hb0.size);have hz:=hf.2.size;obtain⟨RA,rc,rfl,_⟩:=hf.own.form
  refine Ko hK ?_ fun hHeld=>?_
  ·exact⟨hB1.cell 0 rfl,hB1.cell 2 rfl⟩
  clear hK K
  refine To 9 rfl fun K hK=>?_
  rw[if_pos (by rfl)]
  refine wp_app_bytes (.tmp 28) (.tmp 30) rfl w.heap.size _ _ rfl (hf.own.more hb0.size) _ x.bytes.length _ x.bytes rfl rfl hs1 (by omega) hb1.size fun v' w2 hO2 hg2 _=>?_
  have hB2:=hB1.grown hg2 (fun h=>by have:=(hf.own.lt _ h).1;simp at this;omega);have hb2:=hb1.grown hg2 hb1.size (fun q hq=>Nat.le_trans hb0.size (hf.own.lt q hq).1)
  refine Ko hK ?_ fun hHeld=>?_
  ·exact⟨hB2.cell 0 rfl,hB2.cell 2 rfl⟩
  clear hK K
  refine To 10 rfl fun K hK=>?_
  go_simp
  refine Kz hK ?_
  clear hK K
  refine Wd ?_
  go_wp2_with fail
  go_ret
  exact⟨_,rfl,by rw[E.out];exact⟨hO2,hb2⟩⟩
end
theorem raw_more (x:Itm) (hk:4≤x.kind∧x.kind≤6) (ih:∀ y:Itm,cnt y<cnt x→RawSaid y):RawSaid x:=by
 intro H k n ba bl bc ia il ic w lv hg hl hx hH
 obtain⟨rfl,rfl,rfl,rfl,hxi⟩:=hx.eqs_;have hx:=hxi;have hbd:=hx.bounds;have e0:=enc_more hg hk;rw[e0,List.length_append]at hl;have HL:=Hh hl;have HG:=Hh hg.items;have hf6:=frameOk_spec (show frameOk x lv=true by rcases nodeOk_cases hg.node with ⟨h1,_⟩ | ⟨_,h1⟩;(rw[isPlain_iff]at h1;omega);exact h1);have hB:=Blk.new w 26 #[.int .i64 x.kind,.int .u64 x.n,.slice ba x.bytes.length bc,.slice ia x.items.length ic];have hb0:=below_box w (itemO x ba bc ia ic);have hil:x.items.length≤9223372036854775807:=by omega
 have HX:=Hh hx;have HN:=Hh hbd.2.2.1;clear hl hbd hf6 hg hx
 have three:∃ (q m:Int) (hd:List UInt8) (D:Hid (∀ w1:World,Calls Tryz.prog 110 #[.int .i64 q,.int .u64 m] w1 fun e w'=>∃ r,e=.returned r∧Fresh w1 hd r w')),
   encB x=hd++encL x.items∧((x.kind=4∧q=4∧m=x.items.length)∨(x.kind=5∧q=5∧m=(x.items.length:Int)/2)∨(x.kind=6∧q=6∧m=x.n)):=by
  rcases(by omega:x.kind=4∨x.kind=5∨x.kind=6) with h | h | h
  ·refine⟨4,x.items.length,_,fun w1=>ref_Head 4 _ w1 (by omega) (by omega) (by omega) (by omega), ?_,.inl ⟨h,rfl,rfl⟩⟩
   have:numP x=x.items.length:=by simp[numP,h]
   rw[e0,h,this];rfl
  ·refine⟨5,(x.items.length:Int)/2,_,fun w1=>ref_Head 5 _ w1 (by omega) (by omega) (by omega) (by omega), ?_,.inr (.inl ⟨h,rfl,rfl⟩)⟩
   have:numP x=x.items.length/2:=by simp[numP,h]
   rw[e0,h,this];rfl
  ·refine⟨6,x.n,_,fun w1=>ref_Head 6 _ w1 (by omega) (by omega) (by omega) (by have:=HN.out;omega), ?_,.inr (.inr ⟨h,rfl,rfl⟩)⟩
   have:numP x=x.n:=by simp[numP,h]
   rw[e0,h,this];rfl
 obtain⟨q,m,hd,D,e1,h3⟩:=three;have E:=Hh e1;have hl2:hd.length+(encL x.items).length≤1099511627776:=by rw[← List.length_append,← e1,e0,List.length_append];exact HL.out
 have HL2:=Hh hl2;clear e0 e1 hl2 HL hk;have KW:IntKind.u64.wrap (x.items.length:Int)=(x.items.length:Int):=IntWalk.u64_in _ (by omega);have KW2:IntKind.u64.wrap ((x.items.length:Int)/2)=(x.items.length:Int)/2:=IntWalk.u64_in _ (by omega)
 rcases h3 with ⟨hk,rfl,rfl⟩ | ⟨hk,rfl,rfl⟩ | ⟨hk,rfl,rfl⟩
 ·obtain⟨b0,b1,b2,b3,b4,b5,b6,b7,b8⟩:=kinds4 hk;clear hk;go_enter Tryz.func87,Tryz.ntmps87
  go_wp2_with fail
  refine(D.out _).mono ?_
  rintro e w1 ⟨r,rfl,hf⟩
  have hB1:=hB.below hf.2;have hb1:=hb0.trans (hf.2.mono hb0.size);have c3:=hB1.cell 3 rfl;have hO1:=hf.own.more hb0.size;obtain⟨RA,rc,rfl,_⟩:=hO1.form;clear hf;go_wp2_with fail
  go_loopw [3,69] (fun v3 v69 wr=>∃ (k:Nat) (VA:Option Addr) (vc vn:Nat) (l:List UInt8),k≤x.items.length∧v69=.int .i64 k∧v3=.slice VA vn vc∧OwnB wr w.heap.size (.slice VA vn vc) l∧vn=l.length∧(encB x=l++encL (x.items.drop k))∧Below w.heap.size w wr) (fun _ v69 _=>x.items.length-(intOf v69).toNat)
  case atStart=>exact⟨0,_,_,_,_,Nat.zero_le _,rfl,rfl,hO1,rfl,by rw[E.out];rfl,hb1⟩
  case round =>
   obtain⟨k,VA,vc,vn,l,hkl,rfl,rfl,hOr,hvn,hel,hbr⟩:=hrel;have HV:=Hh hvn;have HE:=Hh hel;clear hvn hel
   by_cases hlt:k<x.items.length
   ·have hHr:Holds wr H:=hH.below hbr (Nat.le_refl _);obtain⟨ib,io,hia,hel⟩:=HX.out.items (by omega);obtain⟨eba,ebc,eia,eic,q0,q1,q2,q3,hex⟩:=hel.get k hlt;subst hia;have p0:=hHr.cell q0;have p1:=hHr.cell q1;have p2:=hHr.cell q2;have p3:=hHr.cell q3;have hfin:encL (x.items.drop k)=encB x.items[k]++encL (x.items.drop (k+1)):=by rw[List.drop_eq_getElem_cons hlt,encL]
    have hlen5:l.length+(encB x.items[k]).length≤1099511627776:=by
     have h1:=HL2.out;rw[← List.length_append,← E.out,HE.out,hfin]at h1
     simp only[List.length_append]at h1
     omega
    have HF:Hid (encB x=(l++encB x.items[k])++encL (x.items.drop (k+1))):=by rw[Hid,HE.out,hfin,List.append_assoc]
    have IHC:=ih x.items[k] (cnt_items x k hlt) H _ _ eba _ ebc eia _ eic (wr.alloc (.cells #[.int .i64 x.items[k].kind,.int .u64 x.items[k].n,.slice eba x.items[k].bytes.length ebc,.slice eia x.items[k].items.length eic] 26)) (lv+1)
     (HG.out.get _ (List.getElem_mem hlt)) (by omega) hex.arg (hHr.alloc _)
    have IHH:=Hh IHC;have hbr5:=hbr.alloc hbr.size (itemO x.items[k] eba ebc eia eic);have hO5:=hOr.alloc (itemO x.items[k] eba ebc eia eic);clear hfin q0 q1 q2 q3 IHC hOr;go_wp2_with fail
    refine IHH.out.mono ?_
    rintro e w6 ⟨r6,rfl,hf6⟩
    obtain⟨SA,sc,rfl,_⟩:=hf6.own.form;have hO6:=hO5.below hf6.2;have hb6:=hbr5.trans (hf6.2.mono hbr5.size);have hlen6:=hlen5;clear hlen5;go_wp2_with (at_builtin;refine stop_in ?_)
    unfold Stopped
    obtain rfl:=HV.out
    refine wpList_app_bytes rfl (.tmp 73) (.tmp 75) rfl w.heap.size _ _ rfl hO6 SA _ sc (encB x.items[k]) rfl rfl hf6.own.src hlen6 hb6.size fun v' w7 hO7 hg7 hat7=>?_
    obtain⟨VA',vc',rfl,_⟩:=hO7.form;have hO7':OwnB w7 w.heap.size (.slice VA' (l.length+(encB x.items[k]).length) vc') (l++encB x.items[k]):=by rw[← List.length_append];exact hO7
    have hb7:=hb6.grown hg7 hb6.size (fun q hq=>(hO6.lt q hq).1);clear hlen6 hO6 hO7 hg7 hat7 hf6 IHH p0 p1 p2 p3 hO5 hbr5 hb6 hbr;go_wp2_with fail
    go_roundw
    case rel=>exact⟨k+1,VA',vc',_,_,by omega,by go_num,rfl,hO7',by rw[List.length_append],HF.out,hb7⟩
    case measure=>simp[intOf];omega
   ·have hkk:k=x.items.length:=by omega
    subst hkk;have HZ:Hid (encB x=l):=by rw[Hid,HE.out,List.drop_length,encL,List.append_nil]
    go_wp2_with fail
    go_ret
    obtain rfl:=HV.out
    exact⟨_,rfl,by rw[HZ.out];exact⟨hOr,hbr⟩⟩
 ·obtain⟨b0,b1,b2,b3,b4,b5,b6,b7,b8⟩:=kinds5 hk;clear hk;go_enter Tryz.func87,Tryz.ntmps87
  go_wp2_with fail
  refine(D.out _).mono ?_
  rintro e w1 ⟨r,rfl,hf⟩
  have hB1:=hB.below hf.2;have hb1:=hb0.trans (hf.2.mono hb0.size);have c3:=hB1.cell 3 rfl;have hO1:=hf.own.more hb0.size;obtain⟨RA,rc,rfl,_⟩:=hO1.form;clear hf;go_wp2_with fail
  go_loopw [3,69] (fun v3 v69 wr=>∃ (k:Nat) (VA:Option Addr) (vc vn:Nat) (l:List UInt8),k≤x.items.length∧v69=.int .i64 k∧v3=.slice VA vn vc∧OwnB wr w.heap.size (.slice VA vn vc) l∧vn=l.length∧(encB x=l++encL (x.items.drop k))∧Below w.heap.size w wr) (fun _ v69 _=>x.items.length-(intOf v69).toNat)
  case atStart=>exact⟨0,_,_,_,_,Nat.zero_le _,rfl,rfl,hO1,rfl,by rw[E.out];rfl,hb1⟩
  case round =>
   obtain⟨k,VA,vc,vn,l,hkl,rfl,rfl,hOr,hvn,hel,hbr⟩:=hrel;have HV:=Hh hvn;have HE:=Hh hel;clear hvn hel
   by_cases hlt:k<x.items.length
   ·have hHr:Holds wr H:=hH.below hbr (Nat.le_refl _);obtain⟨ib,io,hia,hel⟩:=HX.out.items (by omega);obtain⟨eba,ebc,eia,eic,q0,q1,q2,q3,hex⟩:=hel.get k hlt;subst hia;have p0:=hHr.cell q0;have p1:=hHr.cell q1;have p2:=hHr.cell q2;have p3:=hHr.cell q3;have hfin:encL (x.items.drop k)=encB x.items[k]++encL (x.items.drop (k+1)):=by rw[List.drop_eq_getElem_cons hlt,encL]
    have hlen5:l.length+(encB x.items[k]).length≤1099511627776:=by
     have h1:=HL2.out;rw[← List.length_append,← E.out,HE.out,hfin]at h1
     simp only[List.length_append]at h1
     omega
    have HF:Hid (encB x=(l++encB x.items[k])++encL (x.items.drop (k+1))):=by rw[Hid,HE.out,hfin,List.append_assoc]
    have IHC:=ih x.items[k] (cnt_items x k hlt) H _ _ eba _ ebc eia _ eic (wr.alloc (.cells #[.int .i64 x.items[k].kind,.int .u64 x.items[k].n,.slice eba x.items[k].bytes.length ebc,.slice eia x.items[k].items.length eic] 26)) (lv+1)
     (HG.out.get _ (List.getElem_mem hlt)) (by omega) hex.arg (hHr.alloc _)
    have IHH:=Hh IHC;have hbr5:=hbr.alloc hbr.size (itemO x.items[k] eba ebc eia eic);have hO5:=hOr.alloc (itemO x.items[k] eba ebc eia eic);clear hfin q0 q1 q2 q3 IHC hOr;go_wp2_with fail
    refine IHH.out.mono ?_
    rintro e w6 ⟨r6,rfl,hf6⟩
    obtain⟨SA,sc,rfl,_⟩:=hf6.own.form;have hO6:=hO5.below hf6.2;have hb6:=hbr5.trans (hf6.2.mono hbr5.size);have hlen6:=hlen5;clear hlen5;go_wp2_with (at_builtin;refine stop_in ?_)
    unfold Stopped
    obtain rfl:=HV.out
    refine wpList_app_bytes rfl (.tmp 73) (.tmp 75) rfl w.heap.size _ _ rfl hO6 SA _ sc (encB x.items[k]) rfl rfl hf6.own.src hlen6 hb6.size fun v' w7 hO7 hg7 hat7=>?_
    obtain⟨VA',vc',rfl,_⟩:=hO7.form;have hO7':OwnB w7 w.heap.size (.slice VA' (l.length+(encB x.items[k]).length) vc') (l++encB x.items[k]):=by rw[← List.length_append];exact hO7
    have hb7:=hb6.grown hg7 hb6.size (fun q hq=>(hO6.lt q hq).1);clear hlen6 hO6 hO7 hg7 hat7 hf6 IHH p0 p1 p2 p3 hO5 hbr5 hb6 hbr;go_wp2_with fail
    go_roundw
    case rel=>exact⟨k+1,VA',vc',_,_,by omega,by go_num,rfl,hO7',by rw[List.length_append],HF.out,hb7⟩
    case measure=>simp[intOf];omega
   ·have hkk:k=x.items.length:=by omega
    subst hkk;have HZ:Hid (encB x=l):=by rw[Hid,HE.out,List.drop_length,encL,List.append_nil]
    go_wp2_with fail
    go_ret
    obtain rfl:=HV.out
    exact⟨_,rfl,by rw[HZ.out];exact⟨hOr,hbr⟩⟩
 ·obtain⟨b0,b1,b2,b3,b4,b5,b6,b7,b8⟩:=kinds6 hk;clear hk;go_enter Tryz.func87,Tryz.ntmps87
  go_wp2_with fail
  refine(D.out _).mono ?_
  rintro e w1 ⟨r,rfl,hf⟩
  have hB1:=hB.below hf.2;have hb1:=hb0.trans (hf.2.mono hb0.size);have c3:=hB1.cell 3 rfl;have hO1:=hf.own.more hb0.size;obtain⟨RA,rc,rfl,_⟩:=hO1.form;clear hf;go_wp2_with fail
  go_loopw [3,69] (fun v3 v69 wr=>∃ (k:Nat) (VA:Option Addr) (vc vn:Nat) (l:List UInt8),k≤x.items.length∧v69=.int .i64 k∧v3=.slice VA vn vc∧OwnB wr w.heap.size (.slice VA vn vc) l∧vn=l.length∧(encB x=l++encL (x.items.drop k))∧Below w.heap.size w wr) (fun _ v69 _=>x.items.length-(intOf v69).toNat)
  case atStart=>exact⟨0,_,_,_,_,Nat.zero_le _,rfl,rfl,hO1,rfl,by rw[E.out];rfl,hb1⟩
  case round =>
   obtain⟨k,VA,vc,vn,l,hkl,rfl,rfl,hOr,hvn,hel,hbr⟩:=hrel;have HV:=Hh hvn;have HE:=Hh hel;clear hvn hel
   by_cases hlt:k<x.items.length
   ·have hHr:Holds wr H:=hH.below hbr (Nat.le_refl _);obtain⟨ib,io,hia,hel⟩:=HX.out.items (by omega);obtain⟨eba,ebc,eia,eic,q0,q1,q2,q3,hex⟩:=hel.get k hlt;subst hia;have p0:=hHr.cell q0;have p1:=hHr.cell q1;have p2:=hHr.cell q2;have p3:=hHr.cell q3;have hfin:encL (x.items.drop k)=encB x.items[k]++encL (x.items.drop (k+1)):=by rw[List.drop_eq_getElem_cons hlt,encL]
    have hlen5:l.length+(encB x.items[k]).length≤1099511627776:=by
     have h1:=HL2.out;rw[← List.length_append,← E.out,HE.out,hfin]at h1
     simp only[List.length_append]at h1
     omega
    have HF:Hid (encB x=(l++encB x.items[k])++encL (x.items.drop (k+1))):=by rw[Hid,HE.out,hfin,List.append_assoc]
    have IHC:=ih x.items[k] (cnt_items x k hlt) H _ _ eba _ ebc eia _ eic (wr.alloc (.cells #[.int .i64 x.items[k].kind,.int .u64 x.items[k].n,.slice eba x.items[k].bytes.length ebc,.slice eia x.items[k].items.length eic] 26)) (lv+1)
     (HG.out.get _ (List.getElem_mem hlt)) (by omega) hex.arg (hHr.alloc _)
    have IHH:=Hh IHC;have hbr5:=hbr.alloc hbr.size (itemO x.items[k] eba ebc eia eic);have hO5:=hOr.alloc (itemO x.items[k] eba ebc eia eic);clear hfin q0 q1 q2 q3 IHC hOr;go_wp2_with fail
    refine IHH.out.mono ?_
    rintro e w6 ⟨r6,rfl,hf6⟩
    obtain⟨SA,sc,rfl,_⟩:=hf6.own.form;have hO6:=hO5.below hf6.2;have hb6:=hbr5.trans (hf6.2.mono hbr5.size);have hlen6:=hlen5;clear hlen5;go_wp2_with (at_builtin;refine stop_in ?_)
    unfold Stopped
    obtain rfl:=HV.out
    refine wpList_app_bytes rfl (.tmp 73) (.tmp 75) rfl w.heap.size _ _ rfl hO6 SA _ sc (encB x.items[k]) rfl rfl hf6.own.src hlen6 hb6.size fun v' w7 hO7 hg7 hat7=>?_
    obtain⟨VA',vc',rfl,_⟩:=hO7.form;have hO7':OwnB w7 w.heap.size (.slice VA' (l.length+(encB x.items[k]).length) vc') (l++encB x.items[k]):=by rw[← List.length_append];exact hO7
    have hb7:=hb6.grown hg7 hb6.size (fun q hq=>(hO6.lt q hq).1);clear hlen6 hO6 hO7 hg7 hat7 hf6 IHH p0 p1 p2 p3 hO5 hbr5 hb6 hbr;go_wp2_with fail
    go_roundw
    case rel=>exact⟨k+1,VA',vc',_,_,by omega,by go_num,rfl,hO7',by rw[List.length_append],HF.out,hb7⟩
    case measure=>simp[intOf];omega
   ·have hkk:k=x.items.length:=by omega
    subst hkk;have HZ:Hid (encB x=l):=by rw[Hid,HE.out,List.drop_length,encL,List.append_nil]
    go_wp2_with fail
    go_ret
    obtain rfl:=HV.out
    exact⟨_,rfl,by rw[HZ.out];exact⟨hOr,hbr⟩⟩
theorem ref_Raw (x:Itm):RawSaid x:=by
 have main:∀ N,∀ x:Itm,cnt x≤N→RawSaid x:=by
  intro N
  induction N with
  | zero =>
   intro x hx
   have:0<cnt x:=by cases x;rw[cnt];omega
   omega
  | succ N ih =>
   intro x hx
   by_cases hk:4≤x.kind∧x.kind≤6
   ·exact raw_more x hk fun y hy=>ih y (by omega)
   ·intro H k n ba bl bc ia il ic w lv hg hl ha hH
    obtain⟨rfl,rfl,rfl,rfl,hi⟩:=ha.eqs_;have hkk:=nodeOk_kind hg.node
    rcases(by omega:(x.kind=0∨x.kind=1)∨(x.kind=2∨x.kind=3)∨x.kind=7∨x.kind=8) with h | h | h | h
    ·exact raw_num x w lv h hg hi
    ·exact raw_str x w lv h hg hl hi hH
    ·exact raw_simple x w lv h hg hi
    ·exact raw_float x w h hi
 exact main _ x (Nat.le_refl _)
mutual
def Nums:Itm→Prop
 | .mk _ n _ l=>n<18446744073709551616∧NumsL l
def NumsL:List Itm→Prop
 | []=>True
 | x::l=>Nums x∧NumsL l
end
theorem Nums.n_ {x:Itm}(h:Nums x):x.n<18446744073709551616:=by cases x;rw[Nums]at h;exact h.1
theorem Nums.items {x:Itm}(h:Nums x):NumsL x.items:=by cases x;rw[Nums]at h;exact h.2
theorem NumsL.get:∀ {l:List Itm},NumsL l→∀ x∈l,Nums x
 | [],_,x,hx=>by cases hx
 | y::l,h,x,hx=>by
  rw[NumsL]at h
  rcases List.mem_cons.1 hx with rfl | hx
  ·exact h.1
  ·exact h.2.get x hx
mutual
theorem IsItem.nums {H:Snap}:∀ {x:Itm}{ba:Option Addr}{bc:Nat}{ia:Option Addr}{ic:Nat},IsItem H ba bc ia ic x→Nums x
 | .mk k n bs l,ba,bc,ia,ic,h=>by
  rw[IsItem]at h;rw[Nums]
  refine⟨h.1.2.2.1, ?_⟩
  by_cases h0:0<l.length
  ·obtain⟨b,off,_,he⟩:=h.2.2 h0
   exact IsElems.nums he
  ·have:l=[]:=List.eq_nil_of_length_eq_zero (by omega);subst this;rw[NumsL];trivial
theorem IsElems.nums {H:Snap}:∀ {l:List Itm}{b off:Nat},IsElems H b off l→NumsL l
 | [],_,_,_=>by rw[NumsL];trivial
 | x::l,b,off,h=>by
  rw[IsElems]at h;obtain⟨⟨ba,bc,ia,ic,_,_,_,_,hx⟩,hr⟩:=h;rw[NumsL]
  exact⟨IsItem.nums hx,IsElems.nums hr⟩
end
theorem cntL_mem:∀ {l:List Itm}{x:Itm},x∈l→cnt x≤cntL l
 | [],x,h=>by cases h
 | y::l,x,h=>by
  rw[cntL]
  rcases List.mem_cons.1 h with rfl | h
  ·omega
  ·have:=cntL_mem h;omega
theorem encL_mem:∀ {l:List Itm}{x:Itm},x∈l→(encB x).length≤(encL l).length
 | [],x,h=>by cases h
 | y::l,x,h=>by
  rw[encL,List.length_append]
  rcases List.mem_cons.1 h with rfl | h
  ·omega
  ·have:=encL_mem h;omega
theorem validP_elem {m x:Itm}(h:validP m=true) (hx:x∈m.items):validP x=true:=by
 rw[validP_iff]at h⊢;obtain⟨h1,h2,h3⟩:=h
 refine⟨(h1.items.get x hx).le (by omega), ?_, ?_⟩
 ·have:=cntL_mem hx;have:=cnt_eq m;omega
 ·have:=encL_mem hx;have:=node_enc h1.node;omega
theorem validP_num {x:Itm}(h:validP x=true) (hn:Nums x):Num x:=by
 rw[validP_iff]at h;have h1:=node_enc h.1.node;have h2:=spend_bytes h.1.node
 exact⟨hn.n_,by omega⟩
theorem asc_lt:∀ (l:List Itm) (a b:Itm),ascP (a::b::l)=true→∀ q∈pairsOf l,Lib.compareBytes (encB a) (encB q.1)<0
 | [],a,b,_,q,hq=>by rw[pairsOf]at hq;cases hq;intro _ _ _ h;cases h
 | [_],a,b,_,q,hq=>by rw[pairsOf]at hq;cases hq;intro _ _ _ h;cases h
 | c::d::r,a,b,h,q,hq=>by
  rw[ascP,Bool.and_eq_true,decide_eq_true_eq]at h;rw[pairsOf]at hq
  rcases List.mem_cons.1 hq with rfl | hq
  ·exact h.1
  ·exact cmp_trans _ _ _ h.1 (asc_lt r c d h.2 q hq)
theorem ascP_tail {a b:Itm}{l:List Itm}(h:ascP (a::b::l)=true):ascP l=true:=by
 match l with
 | []=>rfl
 | c::r=>rw[ascP,Bool.and_eq_true]at h;exact h.2
theorem asc_uniq:∀ (l:List Itm),ascP l=true→∀ k v v',(k,v)∈pairsOf l→(k,v')∈pairsOf l→v=v'
 | [],_,k,v,v',h,_=>by rw[pairsOf]at h;cases h;intro _ _ _ h;cases h
 | [_],_,k,v,v',h,_=>by rw[pairsOf]at h;cases h;intro _ _ _ h;cases h
 | a::b::r,ha,k,v,v',h,h'=>by
  rw[pairsOf]at h h';have hlt:=asc_lt r a b ha
  rcases List.mem_cons.1 h with e | m
  ·injection e with h1 h2
   rcases List.mem_cons.1 h' with e' | m'
   ·injection e' with _ h3
    rw[h2,h3]
   ·have hz:=hlt _ m'
    simp only at hz
    rw[← h1,cmp_refl]at hz
    omega
  ·rcases List.mem_cons.1 h' with e' | m'
   ·injection e' with h1 h2
    have hz:=hlt _ m
    simp only at hz
    rw[← h1,cmp_refl]at hz
    omega
   ·exact asc_uniq r (ascP_tail ha) k v v' m m'
theorem find_congr {α:Type}{p q:α→Bool}:∀ {l:List α},(∀ x∈l,p x=q x)→l.find? p=l.find? q
 | [],_=>rfl
 | a::l,h=>by
  rw[List.find?_cons,List.find?_cons,h a (by simp),find_congr fun x hx=>h x (by simp[hx])]
theorem findP_at {m x:Itm}(h5:m.kind=5) (hm:validP m=true) (hn:Nums m) (hl:∀ q∈pairsOf m.items,labelP q.1=true) (hx:validP x=true) (nx:Nums x):findP m x=atL x m.items:=by
 rw[findP,if_pos ⟨h5,hm,hx⟩,findL_pairs,atL_pairs,find_congr]
 intro q hq
 have hv:=validP_elem hm (pairsOf_mem hq).1;have hg:=((validP_iff _).1 hv).1;rw[Bool.eq_iff_iff,decide_eq_true_eq,sameB_iff];constructor
 ·intro h
  exact label_enc hg ((validP_iff _).1 hx).1 (hl q hq) (validP_num hv (hn.items.get _ (pairsOf_mem hq).1)) (validP_num hx nx) h
 ·intro h;rw[h]
def critOk (v:Itm) (m:List Itm):Bool:=v.kind==4&&decide (0<v.items.length)&&v.items.all fun x=>(atL x m).isSome
theorem perm_label {a b:Itm}(h:permP a b=true):labelP a=true:=by
 unfold permP at h
 unfold labelP
 by_cases h3:a.kind=3
 ·simp[h3]
 ·rw[if_neg h3]at h
  cases hn:numberP a with
  | true=>simp
  | false=>rw[hn]at h;simp at h
theorem same_int {a:Itm}(j:Nat) (h:a.kind≠0):sameB a (intP (j:Int))=false:=by
 cases hs:sameB a (intP (j:Int)) with
 | false=>rfl
 | true =>
  rw[sameB_iff]at hs;rw[hs,intP_nat]at h
  exact absurd rfl h
theorem perm_value {a b:Itm}{m:List Itm}{lv:Nat}(hg:Good a lv) (hl:labelP a=true):valueP a b m=true↔permP a b=true∧(a=intP 2→critOk b m=true):=by
 have j1:(1:Int)=((1:Nat):Int):=rfl;have j2:(2:Int)=((2:Nat):Int):=rfl;have j4:(4:Int)=((4:Nat):Int):=rfl;have j5:(5:Int)=((5:Nat):Int):=rfl;have j6:(6:Int)=((6:Nat):Int):=rfl;have j12:(12:Int)=((12:Nat):Int):=rfl
 by_cases h0:a.kind=0
 ·have hp:=(isPlain_iff a).2 (by omega);have ho:okPlain a=true:=by rcases nodeOk_cases hg.node with ⟨_,h⟩ | ⟨h,_⟩;exact h;rw[hp]at h;cases h
  obtain⟨k,n,bs,l⟩:=a
  simp only[Itm.kind]at h0
  subst h0
  simp[okPlain,Itm.kind,Itm.bytes,Itm.items]at ho
  obtain⟨rfl,rfl⟩:=ho
  have hn:n≤65535:=by
   by_cases hn:n≤65535
   ·exact hn
   ·exfalso;simp[labelP,numberP,Itm.kind,Itm.n,hn]at hl
  have hs:∀ j:Nat,sameB (.mk 0 n [] []) (intP (j:Int))=decide (n=j):=by
   intro j
   rw[Bool.eq_iff_iff,sameB_iff,intP_nat,decide_eq_true_eq]
   simp
  have he:(Itm.mk 0 n [] []=intP 2)↔n=2:=by
   rw[j2,intP_nat];simp
  unfold valueP permP
  rw[j1,j2,j4,j5,j6,j12,hs,hs,hs,hs,hs,hs,← j2,he];obtain⟨bk,bn,bb,bi⟩:=b
  simp only[Itm.kind,Itm.n,Itm.items,numberP,decide_eq_true_eq,critOk]
  by_cases n1:n=1
  ·subst n1
   by_cases b0:bk=0
   ·subst b0
    by_cases b1:bn=0
    ·simp[b1]
    ·have:0<bn:=by omega
     simp[b1,this]
   ·by_cases b1:bk=1 <;> simp[b0,b1]
  by_cases n2:n=2
  ·subst n2
   simp
  ·simp[n1,n2,hn]
   by_cases n4:n=4
   ·subst n4;simp
   by_cases n5:n=5
   ·subst n5;simp
   by_cases n6:n=6
   ·subst n6;simp
   by_cases n12:n=12
   ·subst n12;simp
   ·simp[n4,n5,n6,n12]
 ·have hne:a≠intP 2:=by
   intro h
   rw[h,j2,intP_nat]at h0
   exact h0 rfl
  have hv:valueP a b m=true:=by
   unfold valueP
   rw[j1,j2,j4,j5,j6,j12,same_int 1 h0,same_int 2 h0,same_int 4 h0,same_int 5 h0,same_int 6 h0,same_int 12 h0]
   simp
  have hp:permP a b=true:=by
   unfold permP
   by_cases h3:a.kind=3
   ·rw[if_pos h3]
   ·have hn:numberP a=true:=by simpa [labelP,h3] using hl
    have h1:a.kind=1:=by
     simp only[numberP,Bool.and_eq_true,Bool.or_eq_true,beq_iff_eq]at hn
     omega
    rw[if_neg h3,if_neg (by simp[hn]),if_pos h1]
  rw[hv,hp]
  simp[hne]
theorem validHR_eq {p u:Itm}(np:Nums p) (nu:Nums u):validHR p u=validH p u:=by
 rw[Bool.eq_iff_iff];have E2:intP 2=intP ((2:Nat):Int):=rfl;have N2:∀ j:Nat,j<100→Nums (intP (j:Int)):=fun j hj=>by rw[intP_nat,Nums,NumsL];exact⟨by omega,trivial⟩
 have core:∀ (hp5:p.kind=5) (hu5:u.kind=5) (vp:validP p=true) (vu:validP u=true) (lp:∀ q∈pairsOf p.items,labelP q.1=true) (lu:∀ q∈pairsOf u.items,labelP q.1=true),
   (validHR p u=true↔validH p u=true):=by
  intro hp5 hu5 vp vu lp lu
  have fp:∀ x,validP x=true→Nums x→findP p x=atL x p.items:=fun x hx nx=>findP_at hp5 vp np lp hx nx
  have fu:∀ x,validP x=true→Nums x→findP u x=atL x u.items:=fun x hx nx=>findP_at hu5 vu nu lu hx nx
  have F:∀ j:Nat,j<100→findH p u (j:Int)=findR p u (j:Int):=by
   intro j hj
   rw[findH,findR,fp _ (validP_int j) (N2 j hj),fu _ (validP_int j) (N2 j hj)]
   all_goals (cases atL (intP (j:Int)) p.items <;> rfl)
  have F5:=F 5 (by omega);have F6:=F 6 (by omega)
  simp only[Int.cast_ofNat_Int]at F5 F6
  have gp:∀ q∈pairsOf p.items,Good q.1 1:=fun q hq=>((validP_iff _).1 vp).1.items.get _ (pairsOf_mem hq).1
  have gu:∀ q∈pairsOf u.items,Good q.1 1:=fun q hq=>((validP_iff _).1 vu).1.items.get _ (pairsOf_mem hq).1
  have C:critP p=true↔∀ q∈pairsOf p.items,q.1=intP 2→critOk q.2 p.items=true:=by
   have hall:∀ c:Itm,c∈p.items→(c.items.all fun x=>(findP p x).isSome)=c.items.all fun x=>(atL x p.items).isSome:=by
    intro c hc
    rw[Bool.eq_iff_iff,List.all_eq_true,List.all_eq_true];constructor
    ·intro h x hx
     rw[← fp x (validP_elem (validP_elem vp hc) hx) ((np.items.get c hc).items.get x hx)]
     exact h x hx
    ·intro h x hx
     rw[fp x (validP_elem (validP_elem vp hc) hx) ((np.items.get c hc).items.get x hx)]
     exact h x hx
   have hf:=fp (intP 2) (validP_int 2) (N2 2 (by omega));rw[critP,hf]
   cases hq:atL (intP 2) p.items with
   | none =>
    simp only[true_iff]
    intro q hq1 hq2
    have:(atL (intP 2) p.items).isSome=true:=atL_some.2 ⟨q.2,by rw[← hq2];exact hq1⟩;rw[hq]at this
    cases this
   | some c =>
    simp only
    have hmem:(intP 2,c)∈pairsOf p.items:=by
     rw[atL_pairs]at hq
     cases hx:(pairsOf p.items).find? (fun p=>sameB p.1 (intP 2)) with
     | none=>rw[hx]at hq;cases hq
     | some y =>
      rw[hx]at hq;injection hq with hq
      have h1:=List.mem_of_find?_eq_some hx;have h2:=List.find?_some hx;rw[sameB_iff]at h2;rw[← hq,← h2]
      exact h1
    rw[hall c (pairsOf_mem hmem).2];constructor
    ·intro h q hq1 hq2
     have:q.2=c:=asc_uniq _ (((validP_iff _).1 vp).1.asc hp5) (intP 2) _ _ (by rw[← hq2];exact hq1) hmem;rw[this,critOk]
     simp only[Bool.and_eq_true]at h⊢
     exact⟨⟨h.1.2,h.2⟩,h.1.1⟩
    ·intro h
     have:=h _ hmem rfl;rw[critOk]at this
     simp only[Bool.and_eq_true]at this⊢
     exact⟨⟨this.2,this.1.1⟩,this.1.2⟩
  have kf:keysFree u p.items=true↔∀ q∈pairsOf p.items,∀ r∈pairsOf u.items,q.1≠r.1:=by
   rw[keysFree_pairs,List.all_eq_true];constructor
   ·intro h q hq r hr he
    have h1:=h q hq;rw[fu q.1 (validP_elem vp (pairsOf_mem hq).1) (np.items.get _ (pairsOf_mem hq).1)]at h1;have h2:(atL q.1 u.items).isSome=true:=atL_some.2 ⟨r.2,by rw[he];exact hr⟩
    cases hz:atL q.1 u.items with
    | none=>rw[hz]at h2;cases h2
    | some _=>rw[hz]at h1;cases h1
   ·intro h q hq
    rw[fu q.1 (validP_elem vp (pairsOf_mem hq).1) (np.items.get _ (pairsOf_mem hq).1)]
    cases hz:atL q.1 u.items with
    | none=>rfl
    | some v =>
     have h2:(atL q.1 u.items).isSome=true:=by rw[hz];rfl
     obtain⟨v',hv'⟩:=atL_some.1 h2
     exact absurd rfl (h q hq (q.1,v') hv')
  have kr:keysR p.items u.items=true↔(∀ q∈pairsOf p.items,∀ r∈pairsOf u.items,q.1≠r.1)∧(findP u (intP 2)).isSome=false:=by
   rw[keysR_pairs,List.all_eq_true,fu (intP 2) (validP_int 2) (N2 2 (by omega))];constructor
   ·intro h
    refine⟨fun q hq r hr he=>?_, ?_⟩
    ·have h1:=h r hr;have h2:(atL r.1 p.items).isSome=true:=atL_some.2 ⟨q.2,by rw[← he];exact hq⟩;rw[h2]at h1
     simp at h1
    ·cases hz:(atL (intP 2) u.items).isSome with
     | false=>rfl
     | true =>
      obtain⟨v,hv⟩:=atL_some.1 hz;have h1:=h _ hv;have:sameB (intP 2) (intP 2)=true:=(sameB_iff _ _).2 rfl
      simp[this]at h1
   ·rintro⟨h1,h2⟩ r hr
    have a1:(atL r.1 p.items).isSome=false:=by
     cases hz:(atL r.1 p.items).isSome with
     | false=>rfl
     | true =>
      obtain⟨v,hv⟩:=atL_some.1 hz
      exact absurd rfl (h1 _ hv r hr)
    have a2:sameB r.1 (intP 2)=false:=by
     cases hz:sameB r.1 (intP 2) with
     | false=>rfl
     | true =>
      rw[sameB_iff]at hz;have:(atL (intP 2) u.items).isSome=true:=atL_some.2 ⟨r.2,by rw[← hz];exact hr⟩;rw[h2]at this
      cases this
    rw[a1,a2];rfl
  have pr:pairsOkR p.items p.items=true↔permL p.items=true∧critP p=true:=by
   rw[C,pairsOkR_pairs,permL_pairs,List.all_eq_true,List.all_eq_true];constructor
   ·intro h
    refine⟨fun q hq=>?_,fun q hq=>?_⟩
    ·have:=h q hq;rw[Bool.and_eq_true]at this
     exact((perm_value (gp q hq) (lp q hq)).1 this.2).1
    ·have:=h q hq;rw[Bool.and_eq_true]at this
     exact((perm_value (gp q hq) (lp q hq)).1 this.2).2
   ·rintro⟨h1,h2⟩ q hq
    rw[Bool.and_eq_true]
    exact⟨lp q hq,(perm_value (gp q hq) (lp q hq)).2 ⟨h1 q hq,h2 q hq⟩⟩
  have ur:(findP u (intP 2)).isSome=false→(pairsOkR u.items u.items=true↔permL u.items=true):=by
   intro h2
   rw[fu (intP 2) (validP_int 2) (N2 2 (by omega))]at h2;rw[pairsOkR_pairs,permL_pairs,List.all_eq_true,List.all_eq_true];constructor
   ·intro h q hq
    have:=h q hq;rw[Bool.and_eq_true]at this
    exact((perm_value (gu q hq) (lu q hq)).1 this.2).1
   ·intro h q hq
    rw[Bool.and_eq_true]
    refine⟨lu q hq,(perm_value (gu q hq) (lu q hq)).2 ⟨h q hq,fun he=>?_⟩⟩
    have:(atL (intP 2) u.items).isSome=true:=atL_some.2 ⟨q.2,by rw[← he];exact hq⟩;rw[h2]at this
    cases this
  unfold validHR validH okMap
  rw[F5,F6]
  simp only[Bool.and_eq_true,hp5,hu5,vp,vu,beq_self_eq_true,true_and,kf,kr,pr]
  cases h2:(findP u (intP 2)).isSome with
  | true=>simp
  | false =>
   have:=ur h2;rw[this]
   simp only[Bool.false_or,Bool.not_and,true_and,and_true]
   constructor
   ·rintro⟨⟨⟨⟨a,b⟩,c⟩,d⟩,e⟩
    exact⟨⟨⟨⟨a,c⟩,d⟩,e⟩,b⟩
   ·rintro⟨⟨⟨⟨a,c⟩,d⟩,e⟩,b⟩
    exact⟨⟨⟨⟨a,b⟩,c⟩,d⟩,e⟩
 constructor
 ·intro h
  have h':=h
  simp only[validHR,Bool.and_eq_true,beq_iff_eq]at h'
  obtain⟨⟨⟨⟨⟨⟨⟨h1,h2⟩,h3⟩,h4⟩,h5⟩,h6⟩,_⟩,_⟩:=h';rw[pairsOkR_pairs,List.all_eq_true]at h5 h6
  exact(core h1 h2 h3 h4 (fun q hq=>by have:=h5 q hq;rw[Bool.and_eq_true]at this;exact this.1) (fun q hq=>by have:=h6 q hq;rw[Bool.and_eq_true]at this;exact this.1)).1 h
 ·intro h
  have h':=h
  simp only[validH,okMap,Bool.and_eq_true,beq_iff_eq]at h'
  obtain⟨⟨⟨⟨⟨⟨h1,h3⟩,h5⟩,⟨h2,h4⟩,h6⟩,_⟩,_⟩,_⟩:=h';rw[permL_pairs,List.all_eq_true]at h5 h6
  exact(core h1 h2 h3 h4 (fun q hq=>perm_label (h5 q hq)) (fun q hq=>perm_label (h6 q hq))).2 h
theorem isNaN_iff (n:Nat):isNaN n=true↔n/2 ^ 52%2048=2047∧n%2 ^ 52≠0:=by
 simp[isNaN]
theorem read_nan (n:Nat):(Ieee.double.read n).isNaN=isNaN n:=by
 rw[Bool.eq_iff_iff,isNaN_iff];have hs:Ieee.double.signWeight=9223372036854775808:=rfl;have hb:Ieee.double.binade=4503599627370496:=rfl;have hi:Ieee.double.infRung=9218868437227405312:=rfl
 simp only[Nat.reducePow]
 by_cases h1:n%Ieee.double.signWeight<Ieee.double.binade
 ·rw[show Ieee.double.read n=.number _ _ _ from if_pos h1];rw[hs,hb]at h1
  simp only[Ieee.Datum.isNaN,Bool.false_eq_true,false_iff]
  omega
 by_cases h2:n%Ieee.double.signWeight<Ieee.double.infRung
 ·rw[show Ieee.double.read n=.number _ _ _ from(if_neg h1).trans (if_pos h2)];rw[hs,hi]at h2
  simp only[Ieee.Datum.isNaN,Bool.false_eq_true,false_iff]
  omega
 by_cases h3:n%Ieee.double.signWeight=Ieee.double.infRung
 ·rw[show Ieee.double.read n=.infinity _ from(if_neg h1).trans ((if_neg h2).trans (if_pos h3))];rw[hs,hi]at h3
  simp only[Ieee.Datum.isNaN,Bool.false_eq_true,false_iff]
  omega
 rw[show Ieee.double.read n=.nan _ _ from(if_neg h1).trans ((if_neg h2).trans (if_neg h3))];rw[hs,hi]at h2 h3
 simp only[Ieee.Datum.isNaN,true_iff]
 omega
theorem order_self (d:Ieee.Datum):(d.order d==some .eq) = !d.isNaN:=by
 cases d with
 | nan a b=>rfl
 | infinity s=>cases s <;> rfl
 | number s m i =>
  simp[Ieee.Datum.order,Ieee.Datum.isNaN]
theorem order_feq (n:Nat):(FloatKind.f64.format.order n n==some .eq) = !isNaN n:=by
 show(Ieee.Datum.order (Ieee.double.read n) (Ieee.double.read n)==some .eq)=_
 rw[order_self,read_nan]
theorem order_fne (n:Nat):(FloatKind.f64.format.order n n != some .eq)=isNaN n:=by
 rw[bne,order_feq,Bool.not_not]
theorem run_f64frombits (n:Nat) (w:World):(callFunc 114 #[.int .u64 (n:Int)]).run Tryz.prog w=.ok (.value (.float .f64 n)) w:=by
 rw[run_callFunc_extern Tryz.func114 (by kernel_rfl) (by kernel_rfl) (by kernel_rfl) (e:=Extern.MathFloatBits.float64frombits) (by kernel_rfl)];rfl
theorem run_f64bits (n:Nat) (w:World):(callFunc 115 #[.float .f64 n]).run Tryz.prog w=.ok (.value (.int .u64 (n:Int))) w:=by
 rw[run_callFunc_extern Tryz.func115 (by kernel_rfl) (by kernel_rfl) (by kernel_rfl) (e:=Extern.MathFloatBits.float64bits) (by kernel_rfl)];rfl
theorem run_f32bits (n:Nat) (w:World):(callFunc 117 #[.float .f32 n]).run Tryz.prog w=.ok (.value (.int .u32 (n:Int))) w:=by
 rw[run_callFunc_extern Tryz.func117 (by kernel_rfl) (by kernel_rfl) (by kernel_rfl) (e:=Extern.MathFloatBits.float32bits) (by kernel_rfl)];rfl
end Go.Proofs.YtgcjjhibdbafmaaGreatDoor
