/- squeezed. Walks: the references' Raw. Walks: -/
import Derived.Test.YtliomcphdnppnaaGreatDoorK02
set_option linter.unusedVariables false
set_option linter.unusedSimpArgs false
set_option maxRecDepth 100000
set_option maxHeartbeats 3200000
namespace Go.Proofs.YtliomcphdnppnaaGreatDoor
open Go.RowKit
theorem jaa{P:Prop}(h:P:=by
 clear hk;go_enter Tryz.func112,Tryz.ntmps112
 go_wp2_with fail
 refine(D.out _).mono ?_
 rintro e w1 ⟨r,rfl,hf⟩
 have xX:=hB.below hf.2;have zB:=xo.trans (hf.2.mono xo.size);have c3:=xX.cell 3 rfl;have uQ:=hf.own.more xo.size;obtain⟨RA,rc,rfl,_⟩:=uQ.form;clear hf;go_wp2_with fail
 go_loopw [3,69] (fun v3 v69 wr=>∃ (k:Nat) (VA:Option Addr) (vc vn:Nat) (l:List UInt8),k≤x.items.length∧v69=.int .i64 k∧v3=.slice VA vn vc∧OwnB wr w.heap.size (.slice VA vn vc) l∧vn=l.length∧(zZ x=l++zP (x.items.drop k))∧Below w.heap.size w wr) (fun _ v69 _=>x.items.length-(intOf v69).toNat)
 case atStart=>exact⟨0,_,_,_,_,Nat.zero_le _,rfl,rfl,uQ,rfl,by rw[E.out];rfl,zB⟩
 case round =>
 obtain⟨k,VA,vc,vn,l,qJ,rfl,rfl,ve,cE,wY,xY⟩:=hrel;have HV:=Hh cE;have HE:=Hh wY;clear cE wY
 by_cases yu:k<x.items.length
 ·have xN:Holds wr H:=hH.below xY (Nat.le_refl _);obtain⟨ib,io,rC,wY⟩:=HX.out.items (by omega);obtain⟨eba,ebc,eia,eic,q0,q1,q2,q3,uy⟩:=wY.get k yu;subst rC;have p0:=xN.cell q0;have p1:=xN.cell q1;have p2:=xN.cell q2;have p3:=xN.cell q3;have pE:zP (x.items.drop k)=zZ x.items[k]++zP (x.items.drop (k+1)):=by rw[List.drop_eq_getElem_cons yu,zP]
  have mT:l.length+(zZ x.items[k]).length≤1099511627776:=by
   have h1:=aV.out;rw[← List.length_append,← E.out,HE.out,pE]at h1
   simp only[List.length_append]at h1
   omega
  have HF:Hid (zZ x=(l++zZ x.items[k])++zP (x.items.drop (k+1))):=by rw[Hid,HE.out,pE,List.append_assoc]
  have IHC:=ih x.items[k] (us x k yu) H _ _ eba _ ebc eia _ eic (wr.alloc (.cells #[.int .i64 x.items[k].kind,.int .u64 x.items[k].n,.slice eba x.items[k].bytes.length ebc,.slice eia x.items[k].items.length eic] 26)) (lv+1)
   (HG.out.get _ (List.getElem_mem yu)) (by omega) uy.arg (xN.alloc _)
  have IHH:=Hh IHC;have sK:=xY.alloc xY.size (zU x.items[k] eba ebc eia eic);have wg:=ve.alloc (zU x.items[k] eba ebc eia eic);clear pE q0 q1 q2 q3 IHC ve;go_wp2_with fail
  refine IHH.out.mono ?_
  rintro e w6 ⟨r6,rfl,qt⟩
  obtain⟨SA,sc,rfl,_⟩:=qt.own.form;have rU:=wg.below qt.2;have wX:=sK.trans (qt.2.mono sK.size);have gd:=mT;clear mT;go_wp2_with (at_builtin;refine zH ?_)
  unfold zC
  obtain rfl:=HV.out
  refine zg rfl (.tmp 73) (.tmp 75) rfl w.heap.size _ _ rfl rU SA _ sc (zZ x.items[k]) rfl rfl qt.own.src gd wX.size fun v' w7 vT ww hat7=>?_
  obtain⟨VA',vc',rfl,_⟩:=vT.form;have aJ:OwnB w7 w.heap.size (.slice VA' (l.length+(zZ x.items[k]).length) vc') (l++zZ x.items[k]):=by rw[← List.length_append];exact vT
  have um:=wX.grown ww wX.size (fun q hq=>(rU.lt q hq).1);clear gd rU vT ww hat7 qt IHH p0 p1 p2 p3 wg sK wX xY;exact jeA
 have cC:k=x.items.length:=by omega
 subst cC;have HZ:Hid (zZ x=l):=by rw[Hid,HE.out,List.drop_length,zP,List.append_nil]
 exact jeN):P:=h
theorem jax{P:Prop}(h:P:=by
 clear hk;go_enter Tryz.func112,Tryz.ntmps112
 go_upto_region 9 with fail
 refine zw 10 (fun w'=>w'.cell? ⟨w.heap.size,0,none⟩=some (.int .i64 x.kind)∧w'.cell? ⟨w.heap.size,2,none⟩=some (.slice ba x.bytes.length bc)) (by kernel_rfl) (⟨hB.cell 0 rfl,hB.cell 2 rfl⟩) (fun zy=>?_)
 refine Tk 0 rfl zy ?_
 refine Tk 1 rfl zy ?_
 refine Tk 2 rfl zy ?_
 refine Tk 3 rfl zy ?_
 refine Tk 4 rfl zy ?_
 refine Tk 5 rfl zy ?_
 refine Tk 7 rfl zy ?_
 refine Tk 8 rfl zy ?_
 refine To 6 rfl fun K hK=>?_
 go_simp
 refine(DD.out _).mono ?_
 rintro e w1 ⟨r,rfl,hf⟩
 have xX:=hB.below hf.2;have vV:=hs.below hf.2;have zB:=xo.trans (hf.2.mono xo.size);have hz:=hf.2.size;obtain⟨RA,rc,rfl,_⟩:=hf.own.form
 refine Ko hK ?_ fun zy=>?_
 ·exact⟨xX.cell 0 rfl,xX.cell 2 rfl⟩
 clear hK K
 refine To 9 rfl fun K hK=>?_
 rw[if_pos (by rfl)]
 refine qX (.tmp 28) (.tmp 30) rfl w.heap.size _ _ rfl (hf.own.more xo.size) _ x.bytes.length _ x.bytes rfl rfl vV (by omega) zB.size fun v' w2 ob sv _=>?_
 have yQ:=xX.grown sv (fun h=>by have:=(hf.own.lt _ h).1;simp at this;omega);have zG:=zB.grown sv zB.size (fun q hq=>Nat.le_trans xo.size (hf.own.lt q hq).1)
 refine Ko hK ?_ fun zy=>?_
 ·exact⟨yQ.cell 0 rfl,yQ.cell 2 rfl⟩
 clear hK K
 refine To 10 rfl fun K hK=>?_
 go_simp
 refine Kz hK ?_
 clear hK K
 refine Wd ?_
 go_wp2_with fail
 go_ret
 exact⟨_,rfl,by rw[E.out];exact⟨ob,zG⟩⟩):P:=h
theorem jbl{P:Prop}(h:P:=by
 go_enter Tryz.func112,Tryz.ntmps112
 go_wp2_with fail
 refine D.out.mono ?_
 rintro e w1 ⟨r,rfl,hf⟩
 go_wp2_with fail
 go_ret
 exact⟨_,rfl,by rw[E.out];exact hf.step xo⟩):P:=h
theorem jbv{P:Prop}(h:P:=by
 intro x hx
 have:0<cnt x:=by cases x;rw[cnt];omega
 omega):P:=h
theorem jcm{P:Prop}(h:P:=by exact main _ x (Nat.le_refl _)):P:=h
theorem jdD{P:Prop}(h:P:=by rw[(z8 x).2 (by omega)]at h1;cases h1):P:=h
theorem jd0{P:Prop}(h:P:=by subst h;decide):P:=h
theorem jeA{P:Prop}(h:P:=by
 go_wp2_with fail
 go_roundw
 case rel=>exact⟨k+1,VA',vc',_,_,by omega,by go_num,rfl,aJ,by rw[List.length_append],HF.out,um⟩
 case measure=>simp[intOf];omega):P:=h
theorem jeN{P:Prop}(h:P:=by
 go_wp2_with fail
 go_ret
 obtain rfl:=HV.out
 exact⟨_,rfl,by rw[HZ.out];exact⟨ve,xY⟩⟩):P:=h
theorem je9{P:Prop}(h:P:=by have hB:=Blk.new w 26 #[.int .i64 x.kind,.int .u64 x.n,.slice ba x.bytes.length bc,.slice ia x.items.length ic];have xo:=zo w (zU x ba bc ia ic);exact And.intro hB xo):P:=h
theorem jfa{P:Prop}(h:P:=by have hB:=Blk.new w 26 #[.int .i64 x.kind,.int .u64 x.n,.slice ba x.bytes.length bc,.slice ia x.items.length ic];exact hB):P:=h
theorem jgF{P:Prop}(h:P:=by have tf:=hx.bounds;exact tf):P:=h
theorem jgH{P:Prop}(h:P:=by have HN:=Hh tf.2.2.1;exact HN):P:=h
theorem ItemA.eqs_ {H:Snap}{k n:Int}{ba:Option Addr}{bl bc:Nat}{ia:Option Addr}{il ic:Nat}{x:Itm}(h:ItemA H k n ba bl bc ia il ic x):k=x.kind∧n=(x.n:Int)∧bl=x.bytes.length∧il=x.items.length∧IsItem H ba bc ia ic x:=⟨h.1,h.2,h.3,h.4,h.5⟩
theorem Fresh.step {w w1 w2:World}{l:List UInt8}{r:Value}(hb:Below w.heap.size w w1) (h:Fresh w1 l r w2):Fresh w l r w2:=⟨h.own.more hb.size,hb.trans (h.2.mono hb.size)⟩
theorem Fresh.litAt (w:World) (l:List UInt8) (cs:Array Value) (k b:Nat) (hb:b=w.heap.size) (hk:k=l.length) (hm:l.length≤4096) (hc:cs.toList=l.map zm) :
  Fresh w l (.slice (some ⟨b,0,none⟩) k k) (w.alloc (.cells cs 5)):=by
 subst hb
 exact Fresh.lit w l cs k hk hm hc
def fW (x:Itm):Prop:=∀ (H:Snap) (k n:Int) (ba:Option Addr) (bl bc:Nat) (ia:Option Addr) (il ic:Nat) (w:World) (lv:Nat),
 Good x lv→(zZ x).length≤1099511627776→ItemA H k n ba bl bc ia il ic x→Holds w H→
 Calls Tryz.prog 112 #[.agg #[.int .i64 k,.int .u64 n,.slice ba bl bc,.slice ia il ic]] w fun e w'=>∃ r,e=.returned r∧Fresh w (zZ x) r w'
theorem Jq {x:Itm}{lv:Nat}(h:Good x lv) (hk:x.kind=0∨x.kind=1):zZ x=yv x.kind.toNat x.n:=by
 have ho:=h.node
 rcases yJ ho with ⟨h1,h2⟩ | ⟨h1,_⟩
 ·have hi:=(wm h1 h2).1;have hb:x.bytes=[]:=by simp[yy,hk]at h2;exact h2.1
  have hn:yA x=x.n:=by unfold yA;rcases hk with h | h <;> simp[h]
  rw[yP,if_neg (by omega),if_neg (by omega),hi,hb,zP,hn]
  simp
 exact jdD
theorem Jr {x:Itm}{lv:Nat}(h:Good x lv) (hk:x.kind=2∨x.kind=3):zZ x=yv x.kind.toNat x.bytes.length++x.bytes:=by
 have ho:=h.node
 rcases yJ ho with ⟨h1,h2⟩ | ⟨h1,_⟩
 ·have hi:=(wm h1 h2).1;have hn:yA x=x.bytes.length:=by unfold yA;rw[if_pos hk]
  rw[yP,if_neg (by omega),if_neg (by omega),hi,zP,hn]
  simp
 exact jdD
theorem NG {x:Itm}{lv:Nat}(h:Good x lv) (hk:4≤x.kind∧x.kind≤6):zZ x=yv x.kind.toNat (yA x)++zP x.items:=by
 have ho:=h.node
 rcases yJ ho with ⟨h1,_⟩ | ⟨_,h1⟩
 ·rw[z8]at h1;omega
 have hb:=(yI h1).2.2.2.1;rw[List.length_eq_zero_iff]at hb;rw[yP,if_neg (by omega),if_neg (by omega),hb]
 simp
theorem Ug {x:Itm}{lv:Nat}(h:Good x lv) (hk:x.kind=7):zZ x=if x.n<24 then [u8 (224+x.n)] else [u8 248,u8 x.n]:=by
 have ho:=h.node
 rcases yJ ho with ⟨h1,h2⟩ | ⟨h1,_⟩
 ·have hi:=wm h1 h2;have hn:yA x=x.n:=by unfold yA;simp[hk]
  by_cases og:x.n<24
  ·rw[if_pos og,yP,if_neg (by omega),if_neg (by omega),hi.1,hi.2 (by omega),zP,hn,yv,if_pos og,hk];rfl
  rw[if_neg og,yP,if_neg (by omega),if_pos ⟨hk,by omega⟩]
 exact jdD
theorem OR {k:Int}(h:k=0):(k==0)=true∧(k==1)=false∧(k==2)=false∧(k==3)=false∧(k==4)=false∧(k==5)=false∧(k==6)=false∧(k==7)=false∧(k==8)=false:=by
 exact jd0
theorem OS {k:Int}(h:k=1):(k==0)=false∧(k==1)=true∧(k==2)=false∧(k==3)=false∧(k==4)=false∧(k==5)=false∧(k==6)=false∧(k==7)=false∧(k==8)=false:=by
 exact jd0
theorem OT {k:Int}(h:k=2):(k==0)=false∧(k==1)=false∧(k==2)=true∧(k==3)=false∧(k==4)=false∧(k==5)=false∧(k==6)=false∧(k==7)=false∧(k==8)=false:=by
 exact jd0
theorem OV {k:Int}(h:k=3):(k==0)=false∧(k==1)=false∧(k==2)=false∧(k==3)=true∧(k==4)=false∧(k==5)=false∧(k==6)=false∧(k==7)=false∧(k==8)=false:=by
 exact jd0
theorem OW {k:Int}(h:k=4):(k==0)=false∧(k==1)=false∧(k==2)=false∧(k==3)=false∧(k==4)=true∧(k==5)=false∧(k==6)=false∧(k==7)=false∧(k==8)=false:=by
 exact jd0
theorem OX {k:Int}(h:k=5):(k==0)=false∧(k==1)=false∧(k==2)=false∧(k==3)=false∧(k==4)=false∧(k==5)=true∧(k==6)=false∧(k==7)=false∧(k==8)=false:=by
 exact jd0
theorem OY {k:Int}(h:k=6):(k==0)=false∧(k==1)=false∧(k==2)=false∧(k==3)=false∧(k==4)=false∧(k==5)=false∧(k==6)=true∧(k==7)=false∧(k==8)=false:=by
 exact jd0
theorem OZ {k:Int}(h:k=7):(k==0)=false∧(k==1)=false∧(k==2)=false∧(k==3)=false∧(k==4)=false∧(k==5)=false∧(k==6)=false∧(k==7)=true∧(k==8)=false:=by
 exact jd0
theorem Oa {k:Int}(h:k=8):(k==0)=false∧(k==1)=false∧(k==2)=false∧(k==3)=false∧(k==4)=false∧(k==5)=false∧(k==6)=false∧(k==7)=false∧(k==8)=true:=by
 exact jd0
section
variable (x:Itm) {H:Snap} {ba:Option Addr} {bc:Nat} {ia:Option Addr} {ic:Nat} (w:World) (lv:Nat)
theorem Kf (hk:x.kind=0∨x.kind=1) (hg:Good x lv) (hx:IsItem H ba bc ia ic x) :
  Calls Tryz.prog 112 #[xp x ba bc ia ic] w fun e w'=>∃ r,e=.returned r∧Fresh w (zZ x) r w':=by
 have E:Hid (zZ x=yv x.kind.toNat x.n):=Jq hg hk;have h0:0≤x.kind:=by omega
 have h8:x.kind<8:=by omega
 have HN:=Hh hx.bounds.2.2.1;have D:=Hh (mH x.kind (x.n:Int) (w.alloc (zU x ba bc ia ic)) h0 h8 (by omega) (by have:=HN.out;omega));have xo:=zo w (zU x ba bc ia ic);rw[Int.toNat_natCast]at D;clear hx hg h0 h8
 rcases hk with hk | hk
 ·obtain⟨b0,b1,b2,b3,b4,b5,b6,b7,b8⟩:=OR hk;clear hk;exact jbl
 obtain⟨b0,b1,b2,b3,b4,b5,b6,b7,b8⟩:=OS hk;clear hk;exact jbl
theorem VR (hk:x.kind=7) (hg:Good x lv) (hx:IsItem H ba bc ia ic x) :
  Calls Tryz.prog 112 #[xp x ba bc ia ic] w fun e w'=>∃ r,e=.returned r∧Fresh w (zZ x) r w':=by
 have E0:=Ug hg hk;have HN:=Hh hx.bounds.2.2.1;have xo:=zo w (zU x ba bc ia ic);obtain⟨b0,b1,b2,b3,b4,b5,b6,b7,b8⟩:=OZ hk;clear hx hg hk
 by_cases og:x.n<24
 ·rw[if_pos og]at E0;have E:=Hh E0;have hi:(x.n:Int)<24:=by omega
  clear E0;go_enter Tryz.func112,Tryz.ntmps112
  go_wp2_with fail
  go_ret
  refine⟨_,rfl, ?_⟩
  rw[E.out]
  refine(Fresh.litAt (w.alloc (zU x ba bc ia ic)) [u8 (224+x.n)] _ 1 _ (by simp) rfl (by simp) ?_).step xo
  simp only[List.map_cons,List.map_nil,wU]
  congr 2
  omega
 rw[if_neg og]at E0;have E:=Hh E0;have hi:¬ (x.n:Int)<24:=by omega
 clear E0;go_enter Tryz.func112,Tryz.ntmps112
 go_wp2_with fail
 go_ret
 refine⟨_,rfl, ?_⟩
 rw[E.out]
 refine(Fresh.litAt (w.alloc (zU x ba bc ia ic)) [u8 248,u8 x.n] _ 2 _ (by simp) rfl (by simp) ?_).step xo
 exact jca
theorem Rr (hk:x.kind=8) (hx:IsItem H ba bc ia ic x) :
  Calls Tryz.prog 112 #[xp x ba bc ia ic] w fun e w'=>∃ r,e=.returned r∧Fresh w (zZ x) r w':=by
 have E:Hid (zZ x=yx x.n):=by rw[Hid,yP,if_pos hk]
 have D:=Hh (Rt x.n hx.bounds.2.2.1 (w.alloc (zU x ba bc ia ic)));have xo:=zo w (zU x ba bc ia ic);obtain⟨b0,b1,b2,b3,b4,b5,b6,b7,b8⟩:=Oa hk;clear hx hk;exact jbl
theorem Kg (hk:x.kind=2∨x.kind=3) (hg:Good x lv) (hl:(zZ x).length≤1099511627776) (hx:IsItem H ba bc ia ic x) (hH:Holds w H) :
  Calls Tryz.prog 112 #[xp x ba bc ia ic] w fun e w'=>∃ r,e=.returned r∧Fresh w (zZ x) r w':=by
 have e0:=Jr hg hk;rw[e0,List.length_append]at hl;have E:=Hh e0;have h0:0≤x.kind:=by omega
 have h8:x.kind<8:=by omega
 have hlb:x.bytes.length≤9223372036854775807:=by have:=hx.bounds;omega
 have Dz:x.bytes.length<18446744073709551616:=by omega
 have HL:=Hh Dz;have KW:IntKind.u64.wrap (x.bytes.length:Int)=(x.bytes.length:Int):=IntWalk.u64_in _ (by omega);have D:=fun w1:World=>mH x.kind (x.bytes.length:Int) w1 h0 h8 (by omega) (by have:=HL.out;omega)
 have xo:=(zo w (zU x ba bc ia ic)).drew;have hB:=jfa;have hB:=hB.drew;have hs:Src (w.alloc (zU x ba bc ia ic)).drew _ _:=(Src.of_row hx.bytes.row hH).alloc (zU x ba bc ia ic)
 simp only[Int.toNat_natCast]at D
 have DD:=Hh D;clear hg h0 h8 e0 hx D Dz
 rcases hk with hk | hk
 ·obtain⟨b0,b1,b2,b3,b4,b5,b6,b7,b8⟩:=OT hk;exact jax
 obtain⟨b0,b1,b2,b3,b4,b5,b6,b7,b8⟩:=OV hk;exact jax
end
theorem Np (x:Itm) (hk:4≤x.kind∧x.kind≤6) (ih:∀ y:Itm,cnt y<cnt x→fW y):fW x:=by
 intro H k n ba bl bc ia il ic w lv hg hl hx hH
 obtain⟨rfl,rfl,rfl,rfl,rD⟩:=hx.eqs_;have hx:=rD;have tf:=jgF;have e0:=NG hg hk;rw[e0,List.length_append]at hl;have HL:=Hh hl;have HG:=Hh hg.items;have qt:=yI (show vq x lv=true by rcases yJ hg.node with ⟨h1,_⟩ | ⟨_,h1⟩;(rw[z8]at h1;omega);exact h1);obtain⟨hB,xo⟩:=je9;have Wy:x.items.length≤9223372036854775807:=by omega
 have HX:=Hh hx;have HN:=jgH;clear hl tf qt hg hx
 have three:∃ (q m:Int) (hd:List UInt8) (D:Hid (∀ w1:World,Calls Tryz.prog 141 #[.int .i64 q,.int .u64 m] w1 fun e w'=>∃ r,e=.returned r∧Fresh w1 hd r w')),
   zZ x=hd++zP x.items∧((x.kind=4∧q=4∧m=x.items.length)∨(x.kind=5∧q=5∧m=(x.items.length:Int)/2)∨(x.kind=6∧q=6∧m=x.n)):=by
  rcases(by omega:x.kind=4∨x.kind=5∨x.kind=6) with h | h | h
  ·refine⟨4,x.items.length,_,fun w1=>mH 4 _ w1 (by omega) (by omega) (by omega) (by omega), ?_,.inl ⟨h,rfl,rfl⟩⟩
   have:yA x=x.items.length:=by simp[yA,h]
   rw[e0,h,this];rfl
  ·refine⟨5,(x.items.length:Int)/2,_,fun w1=>mH 5 _ w1 (by omega) (by omega) (by omega) (by omega), ?_,.inr (.inl ⟨h,rfl,rfl⟩)⟩
   have:yA x=x.items.length/2:=by simp[yA,h]
   rw[e0,h,this];rfl
  refine⟨6,x.n,_,fun w1=>mH 6 _ w1 (by omega) (by omega) (by omega) (by have:=HN.out;omega), ?_,.inr (.inr ⟨h,rfl,rfl⟩)⟩
  have:yA x=x.n:=by simp[yA,h]
  rw[e0,h,this];rfl
 obtain⟨q,m,hd,D,e1,h3⟩:=three;have E:=Hh e1;have mi:hd.length+(zP x.items).length≤1099511627776:=by rw[← List.length_append,← e1,e0,List.length_append];exact HL.out
 have aV:=Hh mi;clear e0 e1 mi HL hk;have KW:IntKind.u64.wrap (x.items.length:Int)=(x.items.length:Int):=IntWalk.u64_in _ (by omega);have KW2:IntKind.u64.wrap ((x.items.length:Int)/2)=(x.items.length:Int)/2:=IntWalk.u64_in _ (by omega)
 rcases h3 with ⟨hk,rfl,rfl⟩ | ⟨hk,rfl,rfl⟩ | ⟨hk,rfl,rfl⟩
 ·obtain⟨b0,b1,b2,b3,b4,b5,b6,b7,b8⟩:=OW hk;exact jaa
 ·obtain⟨b0,b1,b2,b3,b4,b5,b6,b7,b8⟩:=OX hk;exact jaa
 obtain⟨b0,b1,b2,b3,b4,b5,b6,b7,b8⟩:=OY hk;exact jaa
theorem nm (x:Itm):fW x:=by
 have main:∀ N,∀ x:Itm,cnt x≤N→fW x:=by
  intro N
  induction N with
  | zero =>
   exact jbv
  | succ N ih =>
  intro x hx
  by_cases hk:4≤x.kind∧x.kind≤6
  ·exact Np x hk fun y hy=>ih y (by omega)
  intro H k n ba bl bc ia il ic w lv hg hl ha hH
  obtain⟨rfl,rfl,rfl,rfl,hi⟩:=ha.eqs_;have cC:=pM hg.node
  rcases(by omega:(x.kind=0∨x.kind=1)∨(x.kind=2∨x.kind=3)∨x.kind=7∨x.kind=8) with h | h | h | h
  ·exact Kf x w lv h hg hi
  ·exact Kg x w lv h hg hl hi hH
  ·exact VR x w lv h hg hi
  exact Rr x w h hi
 exact jcm
end Go.Proofs.YtliomcphdnppnaaGreatDoor
