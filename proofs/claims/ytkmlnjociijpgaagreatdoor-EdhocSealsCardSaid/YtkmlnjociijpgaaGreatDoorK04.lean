/- squeezed. Walks: the references' Raw, joined -/
import Derived.Test.YtkmlnjociijpgaaGreatDoorK03
import Derived.Laws.FloatArith
import Derived.ChangeSlices
import Derived.OpenShut
set_option linter.unusedVariables false
set_option linter.unusedSimpArgs false
set_option maxRecDepth 100000
set_option maxHeartbeats 3200000
namespace Go.Proofs.YtkmlnjociijpgaaGreatDoor
open Go.RowKit
theorem jab{P:Prop}(h:P:=by
 clear hk;go_enter Tryz.func86,Tryz.ntmps86
 go_wp2_with fail
 refine(D.out _).mono ?_
 rintro e w1 ⟨r,rfl,hf⟩
 have qF:=hB.below hf.2;have zY:=yB.trans (hf.2.mono yB.size);have c3:=qF.cell 3 rfl;have zJ:=hf.own.more yB.size;obtain⟨RA,rc,rfl,_⟩:=zJ.form;clear hf;go_wp2_with fail
 go_loopw [3,69] (fun v3 v69 wr=>∃ (k:Nat) (VA:Option Addr) (vc vn:Nat) (l:List UInt8),k≤x.items.length∧v69=.int .i64 k∧v3=.slice VA vn vc∧OwnB wr w.heap.size (.slice VA vn vc) l∧vn=l.length∧(xB x=l++ut (x.items.drop k))∧Below w.heap.size w wr) (fun _ v69 _=>x.items.length-(intOf v69).toNat)
 case atStart=>exact⟨0,_,_,_,_,Nat.zero_le _,rfl,rfl,zJ,rfl,by rw[E.out];rfl,zY⟩
 case round =>
 obtain⟨k,VA,vc,vn,l,uh,rfl,rfl,xe,iO,mg,xW⟩:=hrel;have HV:=Hh iO;have HE:=Hh mg;clear iO mg
 by_cases z9:k<x.items.length
 ·have pZ:Holds wr H:=hH.below xW (Nat.le_refl _);obtain⟨ib,io,In,mg⟩:=HX.out.items (by omega);obtain⟨eba,ebc,eia,eic,q0,q1,q2,q3,jo⟩:=mg.get k z9;subst In;have p0:=pZ.cell q0;have p1:=pZ.cell q1;have p2:=pZ.cell q2;have p3:=pZ.cell q3;have iA:ut (x.items.drop k)=xB x.items[k]++ut (x.items.drop (k+1)):=by rw[List.drop_eq_getElem_cons z9,ut]
  have jf:l.length+(xB x.items[k]).length≤1099511627776:=by
   have h1:=uz.out;rw[← List.length_append,← E.out,HE.out,iA]at h1
   simp only[List.length_append]at h1
   omega
  have HF:Hid (xB x=(l++xB x.items[k])++ut (x.items.drop (k+1))):=by rw[Hid,HE.out,iA,List.append_assoc]
  have IHC:=ih x.items[k] (jw x k z9) H _ _ eba _ ebc eia _ eic (wr.alloc (.cells #[.int .i64 x.items[k].kind,.int .u64 x.items[k].n,.slice eba x.items[k].bytes.length ebc,.slice eia x.items[k].items.length eic] 77)) (lv+1)
   (HG.out.get _ (List.getElem_mem z9)) (by omega) jo.arg (pZ.alloc _)
  have IHH:=Hh IHC;have i6:=xW.alloc xW.size (sG x.items[k] eba ebc eia eic);have zW:=xe.alloc (sG x.items[k] eba ebc eia eic);clear iA q0 q1 q2 q3 IHC xe;go_wp2_with fail
  refine IHH.out.mono ?_
  rintro e w6 ⟨r6,rfl,vF⟩
  obtain⟨SA,sc,rfl,_⟩:=vF.own.form;have wH:=zW.below vF.2;have wS:=i6.trans (vF.2.mono i6.size);have jg:=jf;clear jf;go_wp2_with (at_builtin;refine zh ?_)
  unfold zZ
  obtain rfl:=HV.out
  refine zv rfl (.tmp 73) (.tmp 75) rfl w.heap.size _ _ rfl wH SA _ sc (xB x.items[k]) rfl rfl vF.own.src jg wS.size fun v' w7 xj xQ hat7=>?_
  obtain⟨VA',vc',rfl,_⟩:=xj.form;have oB:OwnB w7 w.heap.size (.slice VA' (l.length+(xB x.items[k]).length) vc') (l++xB x.items[k]):=by rw[← List.length_append];exact xj
  have uI:=wS.grown xQ wS.size (fun q hq=>(wH.lt q hq).1);clear jg wH xj xQ hat7 vF IHH p0 p1 p2 p3 zW i6 wS xW;exact je3
 have kX:k=x.items.length:=by omega
 subst kX;have HZ:Hid (xB x=l):=by rw[Hid,HE.out,List.drop_length,ut,List.append_nil]
 exact jel):P:=h
theorem jax{P:Prop}(h:P:=by
 go_wp2_with fail
 go_ret
 exact⟨by rw[E.out];rfl,rfl⟩):P:=h
theorem jbE{P:Prop}(h:P:=by rw[← Nat.pow_add,show t+1+(52-t)=53 by omega]):P:=h
theorem jbP{P:Prop}(h:P:=by
 have h3:¬ (113≤ex∧ex≤142):=by omega
 have h4:¬ (103≤ex∧ex<113):=by omega
 rw[if_neg h3,if_neg h4]at E;go_ret2
 refine⟨⟨0, ?_, ?_⟩,rfl⟩
 ·rw[E.out];rfl
 intro x hx
 rw[E.out]at hx
 cases hx):P:=h
theorem jb7{P:Prop}(h:P:=by
 generalize t/2=u
 have:t%2=0∨t%2=1:=by omega
 rcases this with h | h <;> rw[h] <;> simp only[Nat.reducePow,Nat.reduceSub,Nat.reduceMul,Nat.reduceAdd,Nat.zero_add] <;> omega):P:=h
theorem jcw{P:Prop}(h:P:=by rw[← Nat.pow_add,show t+(52-t)=52 by omega]):P:=h
theorem jcF{P:Prop}(h:P:=by rw[if_neg (by omega),if_neg (by omega),if_neg (by omega),if_pos (by omega),if_pos (by omega)];congr 1;omega):P:=h
theorem jcP{P:Prop}(h:P:=by simp[at_,List.getD_eq_getElem?_getD,h]):P:=h
theorem jc5{P:Prop}(h:P:=by simp[convert,run_underlying hs,run_underlying hd,Conv.floatToFloat,hq,Question.forced]):P:=h
theorem jdd{P:Prop}(h:P:=by
 unfold Ieee.Format.word
 rcases(by omega:s=0∨s=1) with rfl | rfl <;> simp[e]):P:=h
theorem jdf{P:Prop}(h:P:=by
 simp[Lit.wf,IntKind.min,IntKind.max,IntKind.signed,IntKind.bits]at h
 omega):P:=h
theorem jdr{P:Prop}(h:P:=by have h':Ieee.single.read r=.number a b c:=hq;rw[h']at hn;cases hn):P:=h
theorem jdu{P:Prop}(h:P:=by have h':Ieee.single.read r=.infinity a:=hq;rw[h']at hn;cases hn):P:=h
theorem jdx{P:Prop}(h:P:=by
 rw[if_pos (by omega),if_neg h1,if_neg h0];congr 1
 ·omega
 omega):P:=h
theorem jdD{P:Prop}(h:P:=by rw[← hf,Nat.div_mul_cancel (Nat.dvd_of_mod_eq_zero c6)]):P:=h
theorem jdE{P:Prop}(h:P:=by rw[if_pos (by omega),if_neg (by omega),if_pos h0,h0];simp):P:=h
theorem jd0{P:Prop}(h:P:=by
 go_enter Tryz.func212,Tryz.ntmps212
 go_wp2_with fail
 refine wp_loop_rounds 3 ?_
 rw[rounds_succ];go_wp2_with fail
 refine(D.out _ _).mono ?_
 rintro e w1 ⟨rfl,rfl⟩
 go_wp2_with fail
 exact je4):P:=h
theorem jel{P:Prop}(h:P:=by
 go_wp2_with fail
 go_ret
 obtain rfl:=HV.out
 exact⟨_,rfl,by rw[HZ.out];exact⟨xe,xW⟩⟩):P:=h
theorem jew{P:Prop}(h:P:=by
 go_enter Tryz.func159,Tryz.ntmps159
 exact jax):P:=h
theorem je3{P:Prop}(h:P:=by
 go_wp2_with fail
 go_roundw
 case rel=>exact⟨k+1,VA',vc',_,_,by omega,by go_num,rfl,oB,by rw[List.length_append],HF.out,uI⟩
 case measure=>simp[intOf];omega):P:=h
theorem je4{P:Prop}(h:P:=by
 rw[rounds_succ];go_wp2_with fail
 refine(D.out _ _).mono ?_
 rintro e w1 ⟨rfl,rfl⟩
 go_wp2_with fail
 rw[rounds_succ];exact jal):P:=h
theorem jfD{P:Prop}(h:P:=by have e2:Ieee.double.binade=4503599627370496:=rfl;have e3:Ieee.double.infRung=9218868437227405312:=rfl;have e4:Ieee.double.leastPlace = -1074:=rfl;exact And.intro e2 (And.intro e3 e4)):P:=h
theorem jgh{P:Prop}(h:P:=by have e1:Ieee.single.signWeight=2147483648:=rfl;have e2:Ieee.single.binade=8388608:=rfl;have e3:Ieee.single.infRung=2139095040:=rfl;exact And.intro e1 (And.intro e2 e3)):P:=h
theorem jhd{P:Prop}(h:P:=by have a1:2 ^ f.log2≤f:=Nat.log2_self_le h0;have a2:f<2 ^ (f.log2+1):=Nat.lt_log2_self;exact And.intro a1 a2):P:=h
theorem jhl{P:Prop}(h:P:=by have hs:Tryz.prog.underlying 215=some (.float .f32):=Tryz.underlying215;have hd:Tryz.prog.underlying 213=some (.float .f64):=Tryz.underlying213;exact And.intro hs hd):P:=h
theorem jhx{P:Prop}(h:P:=by have e1:Ieee.double.signWeight=9223372036854775808:=rfl;exact e1):P:=h
theorem QL (x:Itm) (hk:4≤x.kind∧x.kind≤6) (ih:∀ y:Itm,cnt y<cnt x→iP y):iP x:=by
 intro H k n ba bl bc ia il ic w lv hg hl hx hH
 obtain⟨rfl,rfl,rfl,rfl,d9⟩:=hx.eqs_;have hx:=d9;have ig:=hx.bounds;have e0:=Pp hg hk;rw[e0,List.length_append]at hl;have HL:=Hh hl;have HG:=Hh hg.items;have vF:=ol (show pC x lv=true by rcases uJ hg.node with ⟨h1,_⟩ | ⟨_,h1⟩;(rw[vN]at h1;omega);exact h1);have hB:=jhh;have yB:=zX w (sG x ba bc ia ic);have cZ:x.items.length≤9223372036854775807:=by omega
 have HX:=Hh hx;have HN:=Hh ig.2.2.1;clear hl ig vF hg hx
 have three:∃ (q m:Int) (hd:List UInt8) (D:Hid (∀ w1:World,Calls Tryz.prog 85 #[.int .i64 q,.int .u64 m] w1 fun e w'=>∃ r,e=.returned r∧Fresh w1 hd r w')),
   xB x=hd++ut x.items∧((x.kind=4∧q=4∧m=x.items.length)∨(x.kind=5∧q=5∧m=(x.items.length:Int)/2)∨(x.kind=6∧q=6∧m=x.n)):=by
  rcases(by omega:x.kind=4∨x.kind=5∨x.kind=6) with h | h | h
  ·refine⟨4,x.items.length,_,fun w1=>te 4 _ w1 (by omega) (by omega) (by omega) (by omega), ?_,.inl ⟨h,rfl,rfl⟩⟩
   have:sf x=x.items.length:=by simp[sf,h]
   rw[e0,h,this];rfl
  ·refine⟨5,(x.items.length:Int)/2,_,fun w1=>te 5 _ w1 (by omega) (by omega) (by omega) (by omega), ?_,.inr (.inl ⟨h,rfl,rfl⟩)⟩
   have:sf x=x.items.length/2:=by simp[sf,h]
   rw[e0,h,this];rfl
  refine⟨6,x.n,_,fun w1=>te 6 _ w1 (by omega) (by omega) (by omega) (by have:=HN.out;omega), ?_,.inr (.inr ⟨h,rfl,rfl⟩)⟩
  have:sf x=x.n:=by simp[sf,h]
  rw[e0,h,this];rfl
 obtain⟨q,m,hd,D,e1,h3⟩:=three;have E:=Hh e1;have oW:hd.length+(ut x.items).length≤1099511627776:=by rw[← List.length_append,← e1,e0,List.length_append];exact HL.out
 have uz:=Hh oW;clear e0 e1 oW HL hk;have KW:IntKind.u64.wrap (x.items.length:Int)=(x.items.length:Int):=IntWalk.u64_in _ (by omega);have KW2:IntKind.u64.wrap ((x.items.length:Int)/2)=(x.items.length:Int)/2:=IntWalk.u64_in _ (by omega)
 rcases h3 with ⟨hk,rfl,rfl⟩ | ⟨hk,rfl,rfl⟩ | ⟨hk,rfl,rfl⟩
 ·obtain⟨b0,b1,b2,b3,b4,b5,b6,b7,b8⟩:=KH hk;exact jab
 ·obtain⟨b0,b1,b2,b3,b4,b5,b6,b7,b8⟩:=KJ hk;exact jab
 obtain⟨b0,b1,b2,b3,b4,b5,b6,b7,b8⟩:=KO hk;exact jab
theorem Vq (x:Itm):iP x:=by
 have main:∀ N,∀ x:Itm,cnt x≤N→iP x:=by
  intro N
  induction N with
  | zero =>
   intro x hx
   have:0<cnt x:=by cases x;rw[cnt];omega
   omega
  | succ N ih =>
  intro x hx
  by_cases hk:4≤x.kind∧x.kind≤6
  ·exact QL x hk fun y hy=>ih y (by omega)
  intro H k n ba bl bc ia il ic w lv hg hl ha hH
  obtain⟨rfl,rfl,rfl,rfl,hi⟩:=ha.eqs_;have kX:=Yv hg.node
  rcases(by omega:(x.kind=0∨x.kind=1)∨(x.kind=2∨x.kind=3)∨x.kind=7∨x.kind=8) with h | h | h | h
  ·exact NV x w lv h hg hi
  ·exact NX x w lv h hg hl hi hH
  ·exact XJ x w lv h hg hi
  exact U3 x w h hi
 exact main _ x (Nat.le_refl _)
mutual
def ep:Itm→Prop
 | .mk _ n _ l=>n<18446744073709551616∧qa l
def qa:List Itm→Prop
 | []=>True
 | x::l=>ep x∧qa l
end
def aE (n v s x f:Nat):Prop:=s≤1∧v=s*32768+x*1024+f∧f<1024∧x≤31∧
 ((x=31∧f=0∧n=s*9223372036854775808+9218868437227405312)∨(x=0∧f=0∧n=s*9223372036854775808)∨
  (1≤x∧x≤30∧n=s*9223372036854775808+(x+1008)*4503599627370496+f*4398046511104)∨
  (x=0∧∃ t full,t<10∧2 ^ t≤f∧f<2 ^ (t+1)∧full=f*2 ^ (52-t)∧4503599627370496≤full∧n=s*9223372036854775808+(999+t)*4503599627370496+(full-4503599627370496)))
theorem kx (n v s x f:Nat) (h1:s≤1) (h2:v=s*32768+x*1024+f) (h3:f<1024) (h4:x≤31)
  (h:(x=31∧f=0∧n=s*9223372036854775808+9218868437227405312)∨(x=0∧f=0∧n=s*9223372036854775808)∨
  (1≤x∧x≤30∧n=s*9223372036854775808+(x+1008)*4503599627370496+f*4398046511104)∨
  (x=0∧∃ t full,t<10∧2 ^ t≤f∧f<2 ^ (t+1)∧full=f*2 ^ (52-t)∧4503599627370496≤full∧n=s*9223372036854775808+(999+t)*4503599627370496+(full-4503599627370496))):∃ s x f,aE n v s x f :=
 ⟨s,x,f,h1,h2,h3,h4,h⟩
theorem eT {n v:Nat}(hn:n<18446744073709551616) (h:ye n 5 10=some v):∃ s x f,aE n v s x f:=by
 obtain⟨ex,jo⟩:∃ ex,n/4503599627370496%2048=ex:=⟨_,rfl⟩
 obtain⟨mx,cf⟩:∃ mx,n%4503599627370496=mx:=⟨_,rfl⟩
 obtain⟨sg,ag⟩:∃ sg,n/9223372036854775808=sg:=⟨_,rfl⟩
 have xZ:sg≤1:=by omega
 have uE:n=sg*9223372036854775808+ex*4503599627370496+mx:=by omega
 have Ik:ex<2048:=by omega
 have qq:mx<4503599627370496:=by omega
 rw[ye]at h
 simp only[Nat.reducePow,Nat.reduceSub,Nat.reduceAdd,Nat.reduceMul,jo,cf,ag]at h
 clear jo cf ag hn
 split at h
 ·rename_i q1
  split at h
  ·rename_i q2
   injection h with h
   subst q1 q2
   exact kx _ _ _ _ _ xZ (by omega) (by omega) (by omega) (.inl (And.intro rfl (And.intro rfl (by omega))))
  cases h
 rename_i c1
 split at h
 ·rename_i q1
  split at h
  ·rename_i q2
   injection h with h
   subst q1 q2
   exact kx _ _ _ 0 0 xZ (by omega) (by omega) (by omega) (.inr (.inl (And.intro rfl (And.intro rfl (by rw[uE,Nat.zero_mul];simp only[Nat.add_zero])))))
  cases h
 rename_i c2
 split at h
 ·cases h
 rename_i c3
 split at h
 ·rename_i c4
  split at h
  ·rename_i c5
   injection h with h
   obtain⟨x,hx⟩:∃ x,ex=x+1008:=⟨ex-1008,by omega⟩
   obtain⟨f,hf⟩:∃ f,mx=f*4398046511104:=⟨mx/4398046511104,by omega⟩
   subst hx hf
   exact kx _ _ _ x f xZ (by omega) (by omega) (by omega) (.inr (.inr (.inl (And.intro (by omega) (And.intro (by omega) uE)))))
  cases h
 rename_i c4
 split at h
 ·cases h
 rename_i c5
 split at h
 ·rename_i c6
  injection h with h
  obtain⟨t,ht⟩:∃ t,ex=999+t:=⟨ex-999,by omega⟩
  have YQ:43+(1023-ex-15)=52-t:=by omega
  rw[YQ]at h c6;obtain⟨f,hf⟩:∃ f,(mx+4503599627370496)/2 ^ (52-t)=f:=⟨_,rfl⟩
  have ti:mx+4503599627370496=f*2 ^ (52-t):=by
   exact jdD
  have cH:0<2 ^ (52-t):=Nat.two_pow_pos _
  have e1:2 ^ t*2 ^ (52-t)=4503599627370496:=by
   exact jcw
  have e2:2 ^ (t+1)*2 ^ (52-t)=9007199254740992:=by
   exact jbE
  have b1:2 ^ t≤f:=by
   apply Nat.le_of_mul_le_mul_right _ cH
   omega
  have b2:f<2 ^ (t+1):=by
   apply Nat.lt_of_mul_lt_mul_right (a:=2 ^ (52-t))
   omega
  have b3:2 ^ (t+1)≤2 ^ 10:=Nat.pow_le_pow_right (by omega) (by omega)
  simp only[Nat.reducePow]at b3
  rw[hf]at h;have Ou:n=sg*9223372036854775808+(999+t)*4503599627370496+(mx+4503599627370496-4503599627370496):=by rw[uE,ht,Nat.add_sub_cancel]
  exact kx _ _ _ 0 f xZ (by omega) (by omega) (by omega) (.inr (.inr (.inr (And.intro rfl ⟨t,mx+4503599627370496,by omega,b1,b2,ti,by omega,Ou⟩))))
 cases h
def qZ (n v s x f:Nat):Prop:=s≤1∧v=s*2147483648+x*8388608+f∧f<8388608∧x≤255∧
 ((x=255∧f=0∧n=s*9223372036854775808+9218868437227405312)∨(x=0∧f=0∧n=s*9223372036854775808)∨
  (1≤x∧x≤254∧n=s*9223372036854775808+(x+896)*4503599627370496+f*536870912)∨
  (x=0∧∃ t full,t<23∧2 ^ t≤f∧f<2 ^ (t+1)∧full=f*2 ^ (52-t)∧4503599627370496≤full∧n=s*9223372036854775808+(874+t)*4503599627370496+(full-4503599627370496)))
theorem ky (n v s x f:Nat) (h1:s≤1) (h2:v=s*2147483648+x*8388608+f) (h3:f<8388608) (h4:x≤255)
  (h:(x=255∧f=0∧n=s*9223372036854775808+9218868437227405312)∨(x=0∧f=0∧n=s*9223372036854775808)∨
  (1≤x∧x≤254∧n=s*9223372036854775808+(x+896)*4503599627370496+f*536870912)∨
  (x=0∧∃ t full,t<23∧2 ^ t≤f∧f<2 ^ (t+1)∧full=f*2 ^ (52-t)∧4503599627370496≤full∧n=s*9223372036854775808+(874+t)*4503599627370496+(full-4503599627370496))):∃ s x f,qZ n v s x f :=
 ⟨s,x,f,h1,h2,h3,h4,h⟩
theorem eU {n v:Nat}(hn:n<18446744073709551616) (h:ye n 8 23=some v):∃ s x f,qZ n v s x f:=by
 obtain⟨ex,jo⟩:∃ ex,n/4503599627370496%2048=ex:=⟨_,rfl⟩
 obtain⟨mx,cf⟩:∃ mx,n%4503599627370496=mx:=⟨_,rfl⟩
 obtain⟨sg,ag⟩:∃ sg,n/9223372036854775808=sg:=⟨_,rfl⟩
 have xZ:sg≤1:=by omega
 have uE:n=sg*9223372036854775808+ex*4503599627370496+mx:=by omega
 have Ik:ex<2048:=by omega
 have qq:mx<4503599627370496:=by omega
 rw[ye]at h
 simp only[Nat.reducePow,Nat.reduceSub,Nat.reduceAdd,Nat.reduceMul,jo,cf,ag]at h
 clear jo cf ag hn
 split at h
 ·rename_i q1
  split at h
  ·rename_i q2
   injection h with h
   subst q1 q2
   exact ky _ _ _ _ _ xZ (by omega) (by omega) (by omega) (.inl (And.intro rfl (And.intro rfl (by omega))))
  cases h
 rename_i c1
 split at h
 ·rename_i q1
  split at h
  ·rename_i q2
   injection h with h
   subst q1 q2
   exact ky _ _ _ 0 0 xZ (by omega) (by omega) (by omega) (.inr (.inl (And.intro rfl (And.intro rfl (by rw[uE,Nat.zero_mul];simp only[Nat.add_zero])))))
  cases h
 rename_i c2
 split at h
 ·cases h
 rename_i c3
 split at h
 ·rename_i c4
  split at h
  ·rename_i c5
   injection h with h
   obtain⟨x,hx⟩:∃ x,ex=x+896:=⟨ex-896,by omega⟩
   obtain⟨f,hf⟩:∃ f,mx=f*536870912:=⟨mx/536870912,by omega⟩
   subst hx hf
   exact ky _ _ _ x f xZ (by omega) (by omega) (by omega) (.inr (.inr (.inl (And.intro (by omega) (And.intro (by omega) uE)))))
  cases h
 rename_i c4
 split at h
 ·cases h
 rename_i c5
 split at h
 ·rename_i c6
  injection h with h
  obtain⟨t,ht⟩:∃ t,ex=874+t:=⟨ex-874,by omega⟩
  have YQ:30+(1023-ex-127)=52-t:=by omega
  rw[YQ]at h c6;obtain⟨f,hf⟩:∃ f,(mx+4503599627370496)/2 ^ (52-t)=f:=⟨_,rfl⟩
  have ti:mx+4503599627370496=f*2 ^ (52-t):=by
   exact jdD
  have cH:0<2 ^ (52-t):=Nat.two_pow_pos _
  have e1:2 ^ t*2 ^ (52-t)=4503599627370496:=by
   exact jcw
  have e2:2 ^ (t+1)*2 ^ (52-t)=9007199254740992:=by
   exact jbE
  have b1:2 ^ t≤f:=by
   apply Nat.le_of_mul_le_mul_right _ cH
   omega
  have b2:f<2 ^ (t+1):=by
   apply Nat.lt_of_mul_lt_mul_right (a:=2 ^ (52-t))
   omega
  have b3:2 ^ (t+1)≤2 ^ 23:=Nat.pow_le_pow_right (by omega) (by omega)
  simp only[Nat.reducePow]at b3
  rw[hf]at h;have Ou:n=sg*9223372036854775808+(874+t)*4503599627370496+(mx+4503599627370496-4503599627370496):=by rw[uE,ht,Nat.add_sub_cancel]
  exact ky _ _ _ 0 f xZ (by omega) (by omega) (by omega) (.inr (.inr (.inr (And.intro rfl ⟨t,mx+4503599627370496,by omega,b1,b2,ti,by omega,Ou⟩))))
 cases h
theorem iS {n t:Nat}(h1:2 ^ t≤n) (h2:n<2 ^ (t+1)):n.log2=t:=by
 have hn:n≠0:=by have:=Nat.two_pow_pos t;omega
 have a:=(Nat.le_log2 hn).2 h1;have b:=(Nat.log2_lt hn).2 h2
 omega
theorem nE (neg:Bool) (q d:Nat) (h:d≤(q*2 ^ d).log2+2):Ieee.Toward.even.cut neg (q*2 ^ d) d=q:=by
 have hg:(1:Nat) <<< min d ((q*2 ^ d).log2+2)=2 ^ d:=by rw[Nat.min_eq_left h,Nat.shiftLeft_eq,Nat.one_mul]
 have hp:0<2 ^ d:=Nat.two_pow_pos d;have h1:q*2 ^ d/2 ^ d=q:=Nat.mul_div_cancel _ hp;have h2:q*2 ^ d%2 ^ d=0:=Nat.mul_mod_left _ _
 unfold Ieee.Toward.cut
 simp only[hg,h1,h2]
 have e1:decide (2 ^ d<2*0)=false:=by simp
 have e2:(2 ^ d==2*0)=false:=by rw[beq_eq_false_iff_ne];omega
 rw[e1,e2]
 simp
theorem ej {r:Nat}(hr:r<4294967296) (hn:(Ieee.single.read r).isNaN=false):∃ n s x f,n<18446744073709551616∧qZ n r s x f:=by
 obtain⟨s,hs⟩:∃ s,r/2147483648=s:=⟨_,rfl⟩
 obtain⟨x,hx⟩:∃ x,r/8388608%256=x:=⟨_,rfl⟩
 obtain⟨f,hf⟩:∃ f,r%8388608=f:=⟨_,rfl⟩
 have xZ:s≤1:=by omega
 have rl:x≤255:=by omega
 have rv:f<8388608:=by omega
 have hv:r=s*2147483648+x*8388608+f:=by omega
 by_cases h1:x=255
 ·by_cases h0:f=0
  ·exact⟨s*9223372036854775808+9218868437227405312,s,x,f,by omega,xZ,by omega,by omega,by omega,.inl ⟨h1,h0,rfl⟩⟩
  exfalso
  obtain⟨e1,e2,e3⟩:=jgh
  unfold Ieee.Format.read at hn
  rw[e1,e2,e3]at hn
  simp only[show ¬ r%2147483648<8388608 by omega,show ¬ r%2147483648<2139095040 by omega,show ¬ r%2147483648=2139095040 by omega,if_false]at hn
  cases hn
 by_cases h2:x=0
 ·by_cases h0:f=0
  ·exact⟨s*9223372036854775808,s,x,f,by omega,xZ,by omega,by omega,by omega,.inr (.inl ⟨h2,h0,rfl⟩)⟩
  obtain⟨a1,a2⟩:=jhd;have a3:f.log2<23:=(Nat.log2_lt h0).2 (by simpa using rv)
  generalize f.log2=t at a1 a2 a3
  have e1:2 ^ t*2 ^ (52-t)=4503599627370496:=by
   exact jcw
  have e2:2 ^ (t+1)*2 ^ (52-t)=9007199254740992:=by
   exact jbE
  have b1:=Nat.mul_le_mul_right (2 ^ (52-t)) a1;have b2:=Nat.mul_lt_mul_of_pos_right a2 (Nat.two_pow_pos (52-t))
  refine⟨s*9223372036854775808+(874+t)*4503599627370496+(f*2 ^ (52-t)-4503599627370496),s,x,f,by omega,xZ,by omega,by omega,by omega,.inr (.inr (.inr ⟨h2,t,_,a3,a1,a2,rfl,by omega,rfl⟩))⟩
 exact⟨s*9223372036854775808+(x+896)*4503599627370496+f*536870912,s,x,f,by omega,xZ,by omega,by omega,by omega,.inr (.inr (.inl ⟨by omega,by omega,rfl⟩))⟩
theorem bt (s r:Nat) (hs:s≤1):Ieee.double.word (s%2==1) r=s*9223372036854775808+r:=by
 have e:Ieee.double.signWeight=9223372036854775808:=rfl
 exact jdd
theorem bv (s r:Nat) (hs:s≤1):Ieee.single.word (s%2==1) r=s*2147483648+r:=by
 have e:Ieee.single.signWeight=2147483648:=rfl
 exact jdd
theorem Xj {n v s x f:Nat}(h:qZ n v s x f):Ieee.single.read v=if x=255 then .infinity (s%2==1) else if x=0 then .number (s%2==1) f (-149) else .number (s%2==1) (8388608+f) ((x:Int)-150):=by
 obtain⟨a1,a2,a3,a4,a5⟩:=h;obtain⟨e1,e2,e3⟩:=jgh;have e4:Ieee.single.leastPlace = -149:=rfl;have hd:v/2147483648=s:=by omega
 have hm:v%2147483648=x*8388608+f:=by omega
 unfold Ieee.Format.read
 rw[e1,e2,e3,e4,hd,hm]
 simp only
 by_cases h0:x=0
 ·exact jdE
 rw[if_neg (by omega)]
 by_cases h1:x=255
 ·have:f=0:=by omega
  rw[if_neg (by omega),if_pos (by omega),if_pos h1]
 exact jdx
theorem bq {n v s x f:Nat}(h:qZ n v s x f):∃ e m,e≤2047∧m<4503599627370496∧n=s*9223372036854775808+e*4503599627370496+m∧
  (x=255→e=2047∧m=0)∧(x=0∧f=0→e=0∧m=0)∧(1≤x∧x≤254→e=x+896∧m=f*536870912)∧(x=0∧0<f→∃ t,t<23∧2 ^ t≤f∧f<2 ^ (t+1)∧e=874+t∧m+4503599627370496=f*2 ^ (52-t))∧
  Ieee.double.read n=if e=2047 then .infinity (s%2==1) else if e=0 then .number (s%2==1) m (-1074) else .number (s%2==1) (4503599627370496+m) ((e:Int)-1075):=by
 obtain⟨a1,a2,a3,a4,a5⟩:=h
 have key:∀ e m,e≤2047→m<4503599627370496→(e=2047→m=0)→n=s*9223372036854775808+e*4503599627370496+m→Ieee.double.read n=if e=2047 then .infinity (s%2==1) else if e=0 then .number (s%2==1) m (-1074) else .number (s%2==1) (4503599627370496+m) ((e:Int)-1075):=by
  intro e m he hm h7 hn
  have e1:=jhx;obtain⟨e2,e3,e4⟩:=jfD;have hd:n/9223372036854775808=s:=by omega
  have SN:n%9223372036854775808=e*4503599627370496+m:=by omega
  unfold Ieee.Format.read
  rw[e1,e2,e3,e4,hd,SN]
  simp only
  by_cases h0:e=0
  ·exact jdE
  rw[if_neg (by omega)]
  by_cases h1:e=2047
  ·have:=h7 h1;rw[if_neg (by omega),if_pos (by omega),if_pos h1]
  exact jdx
 rcases a5 with ⟨c1,c2,c3⟩ | ⟨c1,c2,c3⟩ | ⟨c1,c2,c3⟩ | ⟨c1,t,full,c2,c3,c4,c5,c6,c7⟩
 ·exact⟨2047,0,by omega,by omega,by omega,fun _=>⟨rfl,rfl⟩,by omega,by omega,by omega,key 2047 0 (by omega) (by omega) (fun _=>rfl) (by omega)⟩
 ·have C3:n=s*9223372036854775808+0*4503599627370496+0:=by rw[c3];simp only[Nat.zero_mul,Nat.add_zero]
  have C3:=Hh C3;clear c3;have x1:x≠255:=by omega
  have x3:¬ (1≤x∧x≤254):=by omega
  have x4:¬ (x=0∧0<f):=by omega
  exact⟨0,0,by omega,by omega,C3.out,fun h=>absurd h x1,fun _=>⟨rfl,rfl⟩,fun h=>absurd h x3,fun h=>absurd h x4,key 0 0 (by omega) (by omega) (by omega) C3.out⟩
 ·have C3:=Hh c3;clear c3;have t1:x+896≤2047:=by omega
  have t2:x+896≠2047:=by omega
  have m1:f*536870912<4503599627370496:=by omega
  have x1:x≠255:=by omega
  have x2:x≠0:=by omega
  exact⟨x+896,f*536870912,t1,m1,C3.out,fun h=>absurd h x1,fun h=>absurd h.1 x2,fun _=>⟨rfl,rfl⟩,fun h=>absurd h.1 x2,key _ _ t1 m1 (fun h=>absurd h t2) C3.out⟩
 have hp:0<f:=by have:=Nat.two_pow_pos t;omega
 have e2:2 ^ (t+1)*2 ^ (52-t)=9007199254740992:=by
  exact jbE
 have b2:=Nat.mul_lt_mul_of_pos_right c4 (Nat.two_pow_pos (52-t));rw[e2,← c5]at b2;have C7:=Hh c7;clear c7;have m1:full-4503599627370496<4503599627370496:=by clear a2;omega
 have m2:full-4503599627370496+4503599627370496=f*2 ^ (52-t):=by rw[← c5];clear a2;omega
 have t1:874+t≤2047:=by omega
 have t2:874+t≠2047:=by omega
 have x1:x≠255:=by omega
 have x2:¬ (x=0∧f=0):=by omega
 have x3:¬ (1≤x∧x≤254):=by omega
 exact⟨874+t,full-4503599627370496,t1,m1,C7.out,fun h=>absurd h x1,fun h=>absurd h x2,fun h=>absurd h x3,fun _=>⟨t,c2,c3,c4,rfl,m2⟩,key _ _ t1 m1 (fun h=>absurd h t2) C7.out⟩
theorem bm {n v s x f:Nat}(h:qZ n v s x f):floatToFloatBits .f32 v .f64=some n:=by
 have hr:=Xj h;obtain⟨e,m,he,hm,hn,g1,g2,g3,g4,hd⟩:=bq h;obtain⟨a1,a2,a3,a4,_⟩:=h;have e1:Ieee.double.fractionBits=52:=rfl;obtain⟨e2,e3,e4⟩:=jfD
 have hw:Ieee.double.write (Ieee.single.read v)=n:=by
  rw[hr]
  by_cases h1:x=255
  ·obtain⟨rfl,rfl⟩:=g1 h1;rw[if_pos h1];show Ieee.double.word _ Ieee.double.infRung=n
   rw[bt _ _ a1,e3];omega
  rw[if_neg h1]
  have near:∀ (mag:Nat) (pl:Int) (t:Nat),t≤52→2 ^ t≤mag→mag<2 ^ (t+1)→-149≤pl→pl≤104→e=(pl+t+1023).toNat→mag*2 ^ (52-t)=4503599627370496+m→Ieee.double.nearest (s%2==1) mag pl=n:=by
   intro mag pl t ht b1 b2 p1 p2 he' SN
   have hl:=iS b1 b2;have h0:mag≠0:=by have:=Nat.two_pow_pos t;omega
   unfold Ieee.Format.nearest
   rw[if_neg h0,hl,e1,e2,e3,e4];have o8:max (pl+(t:Int)-(52:Nat)) (-1074)=pl+t-52:=by omega
   simp only[o8]
   rw[show(pl-(pl+(t:Int)-52)).toNat=52-t by omega,show((pl+(t:Int)-52)-pl).toNat=0 by omega,Nat.shiftLeft_eq,SN];have hc:=nE (s%2==1) (4503599627370496+m) 0 (by omega);rw[Nat.pow_zero,Nat.mul_one]at hc;rw[hc,bt _ _ a1,Nat.min_eq_left (by omega)]
   omega
  by_cases h2:x=0
  ·rw[if_pos h2]
   by_cases h3:f=0
   ·obtain⟨rfl,rfl⟩:=g2 ⟨h2,h3⟩;subst h3;show Ieee.double.nearest _ 0 _=n
    unfold Ieee.Format.nearest
    rw[if_pos rfl,bt _ _ a1];omega
   obtain⟨t,t1,t2,t3,t4,t5⟩:=g4 ⟨h2,by omega⟩
   exact near f (-149) t (by omega) t2 t3 (by omega) (by omega) (by omega) (by omega)
  rw[if_neg h2];obtain⟨k1,k2⟩:=g3 ⟨by omega,by omega⟩
  refine near (8388608+f) ((x:Int)-150) 23 (by omega) (by simp) (by simp;omega) (by omega) (by omega) (by omega) ?_
  simp only[Nat.reduceSub,Nat.reducePow]
  omega
 unfold floatToFloatBits
 rw[if_neg (by decide)];show(match Ieee.single.read v with | .nan _ _=>none | .infinity s=>some (Ieee.double.write (.infinity s)) | .number s m e=>if(Ieee.double.read (Ieee.double.write (.number s m e))).isInfinity then none else some (Ieee.double.write (.number s m e)))=some n
 cases hq:Ieee.single.read v with
 | nan a b =>
  rw[hq]at hr
  split at hr
  ·cases hr
  split at hr <;> cases hr
 | infinity q=>simp only;rw[← hq,hw]
 | number a b c =>
 simp only
 rw[← hq,hw]
 have hx:x≠255:=by
  intro h1
  rw[hq,if_pos h1]at hr
  cases hr
 have he7:e≠2047:=by
  by_cases h2:x=0
  ·by_cases h3:f=0
   ·have:=g2 ⟨h2,h3⟩;omega
   obtain⟨t,t1,t2,t3,t4,t5⟩:=g4 ⟨h2,by omega⟩;omega
  have:=g3 ⟨by omega,by omega⟩;omega
 rw[hd,if_neg he7]
 by_cases h0:e=0
 ·rw[if_pos h0];rfl
 rw[if_neg h0];rfl
theorem Vt {n v s x f:Nat}(h:qZ n v s x f):floatToFloatBits .f64 n .f32=some v:=by
 have hr:=Xj h;obtain⟨e,m,he,hm,hn,g1,g2,g3,g4,hd⟩:=bq h;obtain⟨a1,a2,a3,a4,_⟩:=h;have e1:Ieee.single.fractionBits=23:=rfl;have e2:Ieee.single.binade=8388608:=rfl;have e3:Ieee.single.infRung=2139095040:=rfl;have e4:Ieee.single.leastPlace = -149:=rfl
 have hw:Ieee.single.write (Ieee.double.read n)=v:=by
  rw[hd]
  by_cases h1:x=255
  ·obtain⟨h5,h6⟩:=g1 h1;rw[if_pos h5];show Ieee.single.word _ Ieee.single.infRung=v
   rw[bv _ _ a1,e3]
   omega
  by_cases h2:x=0
  ·by_cases h3:f=0
   ·obtain⟨h5,h6⟩:=g2 ⟨h2,h3⟩;rw[if_neg (by omega),if_pos h5,h6];show Ieee.single.nearest _ 0 _=v
    unfold Ieee.Format.nearest
    rw[if_pos rfl,bv _ _ a1];omega
   obtain⟨t,t1,t2,t3,t4,t5⟩:=g4 ⟨h2,by omega⟩;rw[if_neg (by omega),if_neg (by omega)];show Ieee.single.nearest _ _ _=v
   have hl:(4503599627370496+m).log2=52:=iS (by simp) (by simp;omega)
   unfold Ieee.Format.nearest
   rw[if_neg (by omega),hl,e1,e2,e3,e4];have o8:max ((e:Int)-1075+(52:Nat)-(23:Nat)) (-149) = -149:=by omega
   simp only[o8]
   rw[show((e:Int)-1075 - -149).toNat=0 by omega,show(-149-((e:Int)-1075)).toNat=52-t by omega,Nat.shiftLeft_eq,Nat.pow_zero,Nat.mul_one,show 4503599627370496+m=f*2 ^ (52-t) by omega];rw[nE _ _ _ (by rw[← t5,Nat.add_comm m,hl];omega),bv _ _ a1,Nat.min_eq_left (by omega)];rw[a2,h2,show((-149:Int) - -149).toNat=0 from rfl]
   simp only[Nat.zero_mul,Nat.zero_add,Nat.add_zero]
  obtain⟨k1,k2⟩:=g3 ⟨by omega,by omega⟩;rw[if_neg (by omega),if_neg (by omega)];show Ieee.single.nearest _ _ _=v
  have hl:(4503599627370496+m).log2=52:=iS (by simp) (by simp;omega)
  unfold Ieee.Format.nearest
  rw[if_neg (by omega),hl,e1,e2,e3,e4];have o8:max ((e:Int)-1075+(52:Nat)-(23:Nat)) (-149)=(e:Int)-1046:=by omega
  simp only[o8]
  have hq:4503599627370496+m=(8388608+f)*2 ^ 29:=by simp only[Nat.reducePow];omega
  rw[show((e:Int)-1075-((e:Int)-1046)).toNat=0 by omega,show(((e:Int)-1046)-((e:Int)-1075)).toNat=29 by omega,Nat.shiftLeft_eq,Nat.pow_zero,Nat.mul_one,hq];rw[nE _ _ _ (by rw[← hq,hl];omega),bv _ _ a1,Nat.min_eq_left (by omega)]
  omega
 unfold floatToFloatBits
 rw[if_neg (by decide)];show(match Ieee.double.read n with | .nan _ _=>none | .infinity s=>some (Ieee.single.write (.infinity s)) | .number s m e=>if(Ieee.single.read (Ieee.single.write (.number s m e))).isInfinity then none else some (Ieee.single.write (.number s m e)))=some v
 cases hq:Ieee.double.read n with
 | nan a b =>
  rw[hq]at hd
  split at hd
  ·cases hd
  split at hd <;> cases hd
 | infinity q=>simp only;rw[← hq,hw]
 | number a b c =>
 simp only
 rw[← hq,hw]
 have hx:x≠255:=by
  intro h1
  have:=g1 h1;rw[hq,if_pos this.1]at hd
  cases hd
 rw[hr,if_neg hx]
 by_cases h0:x=0
 ·rw[if_pos h0];rfl
 rw[if_neg h0];rfl
theorem nh {n v s x f:Nat}(h:qZ n v s x f):ye n 8 23=some v:=by
 obtain⟨e,m,he,hm,hn,g1,g2,g3,g4,hd⟩:=bq h;obtain⟨a1,a2,a3,a4,_⟩:=h;have k1:n/4503599627370496%2048=e:=by omega
 have k2:n%4503599627370496=m:=by omega
 have k3:n/9223372036854775808=s:=by omega
 rw[ye]
 simp only[Nat.reducePow,Nat.reduceSub,Nat.reduceAdd,Nat.reduceMul,k1,k2,k3]
 by_cases h1:x=255
 ·obtain⟨h5,h6⟩:=g1 h1;rw[if_pos h5,if_pos h6];congr 1;omega
 by_cases h2:x=0
 ·by_cases h3:f=0
  ·obtain⟨h5,h6⟩:=g2 ⟨h2,h3⟩;rw[if_neg (by omega),if_pos h5,if_pos h6];congr 1;omega
  obtain⟨t,t1,t2,t3,t4,t5⟩:=g4 ⟨h2,by omega⟩;rw[if_neg (by omega),if_neg (by omega),if_neg (by omega),if_neg (by omega),if_neg (by omega),show 30+(1023-e-127)=52-t by omega,t5,if_pos (Nat.mul_mod_left _ _),Nat.mul_div_cancel _ (Nat.two_pow_pos _)];congr 1;omega
 obtain⟨h5,h6⟩:=g3 ⟨by omega,by omega⟩;exact jcF
def e9 (v:Nat):Option Nat :=
 let s:=v/2147483648
 let e:=v/8388608%256
 let m:=v%8388608
 if e=255 then some (s*32768+31744) else if e=0 then(if m=0 then some (s*32768) else none)
 else if 113≤e∧e≤142 then(if m%8192=0 then some (s*32768+(e-112)*1024+m/8192) else none)
 else if 103≤e∧e<113 then(if(m+8388608)%2 ^ (126-e)=0 then some (s*32768+(m+8388608)/2 ^ (126-e)) else none) else none
theorem NK {n v s x f:Nat}(h:qZ n v s x f):e9 v=ye n 5 10:=by
 obtain⟨e,m,he,hm,hn,g1,g2,g3,g4,hd⟩:=bq h;obtain⟨a1,a2,a3,a4,_⟩:=h;have k1:n/4503599627370496%2048=e:=by omega
 have k2:n%4503599627370496=m:=by omega
 have k3:n/9223372036854775808=s:=by omega
 have j1:v/2147483648=s:=by omega
 have j2:v/8388608%256=x:=by omega
 have j3:v%8388608=f:=by omega
 rw[ye,e9]
 simp only[Nat.reducePow,Nat.reduceSub,Nat.reduceAdd,Nat.reduceMul,k1,k2,k3,j1,j2,j3]
 by_cases h1:x=255
 ·obtain⟨h5,h6⟩:=g1 h1;rw[if_pos h5,if_pos h6,if_pos h1]
 by_cases h2:x=0
 ·by_cases h3:f=0
  ·obtain⟨h5,h6⟩:=g2 ⟨h2,h3⟩;rw[if_neg (by omega),if_pos h2,if_pos h3,if_neg (by omega),if_pos h5,if_pos h6]
  obtain⟨t,t1,t2,t3,t4,t5⟩:=g4 ⟨h2,by omega⟩;rw[if_neg (by omega),if_pos h2,if_neg h3,if_neg (by omega),if_neg (by omega),if_neg (by omega),if_neg (by omega),if_pos (by omega)]
 obtain⟨h5,h6⟩:=g3 ⟨by omega,by omega⟩;have n1:¬ e=2047:=by omega
 have n2:¬ e=0:=by omega
 rw[if_neg h1,if_neg h2,if_neg n1,if_neg n2]
 by_cases h7:143≤x
 ·have p1:¬ (113≤x∧x≤142):=by omega
  have p2:¬ (103≤x∧x<113):=by omega
  have p3:1023+31≤e+15:=by omega
  rw[if_neg p1,if_neg p2,if_pos p3]
 have p3:¬ (1023+31≤e+15):=by omega
 by_cases h8:113≤x
 ·have p1:113≤x∧x≤142:=by omega
  have p4:1023<e+15:=by omega
  rw[if_pos p1,if_neg p3,if_pos p4]
  by_cases h9:f%8192=0
  ·have p5:m%4398046511104=0:=by omega
   rw[if_pos h9,if_pos p5];obtain⟨q,rfl⟩:∃ q,f=8192*q:=⟨f/8192,by omega⟩
   have z1:m/4398046511104=8192*q/8192:=by omega
   have z2:e+15-1023=x-112:=by omega
   rw[z1,z2]
  have p5:¬ m%4398046511104=0:=by omega
  rw[if_neg h9,if_neg p5]
 have p1:¬ (113≤x∧x≤142):=by omega
 have p4:¬ 1023<e+15:=by omega
 rw[if_neg p1,if_neg p3,if_neg p4]
 by_cases h9:103≤x
 ·have p2:103≤x∧x<113:=by omega
  have p6:¬ 52<43+(1023-e-15):=by omega
  rw[if_pos p2,if_neg p6];have hs:43+(1023-e-15)=126-x+29:=by omega
  have hq:m+4503599627370496=(f+8388608)*2 ^ 29:=by simp only[Nat.reducePow];omega
  rw[hs,hq,Nat.pow_add,Nat.mul_mod_mul_right,Nat.mul_div_mul_right _ _ (Nat.two_pow_pos 29)]
  by_cases h10:(f+8388608)%2 ^ (126-x)=0
  ·have JK:(f+8388608)%2 ^ (126-x)*2 ^ 29=0:=by rw[h10,Nat.zero_mul]
   rw[if_pos h10,if_pos JK]
  have JK:¬ (f+8388608)%2 ^ (126-x)*2 ^ 29=0:=by
   intro h
   have:=Nat.two_pow_pos 29
   rcases Nat.mul_eq_zero.1 h with h | h <;> omega
  rw[if_neg h10,if_neg JK]
 have p2:¬ (103≤x∧x<113):=by omega
 have p6:52<43+(1023-e-15):=by omega
 rw[if_neg p2,if_pos p6]
def WB (n k:Nat):UInt8:=u8 (n/2 ^ (56-8*k))
theorem Wh (n k:Nat):(#[.int .u8 ((n:Int)/2 ^ (56-8*k)%256)]:Array Value).toList=[WB n k].map zu:=by
 simp only[List.map_cons,List.map_nil,WB,yC]
 simp
theorem TH (n:Nat) (hn:n<18446744073709551616) (w:World) :
  Calls Tryz.prog 181 #[.int .u64 (n:Int)] w fun e w'=>∃ r,e=.returned r∧Fresh w (be8 n 8) r w':=by
 have HN:=Hh hn;clear hn;have hO:=OwnB.nil w w.heap.size;have hb:=Below.refl w.heap.size w;go_enter Tryz.func181,Tryz.ntmps181
 go_wp2_with fail
 go_loopw [3,4] (fun v3 v4 wr=>∃ (k:Nat) (VA:Option Addr) (vc:Nat),k≤8∧v4=.int .i64 (56-8*(k:Int))∧v3=.slice VA k vc∧OwnB wr w.heap.size (.slice VA k vc) (be8 n k)∧Below w.heap.size w wr) (fun _ v4 _=>(intOf v4+8).toNat)
 case atStart=>exact⟨0,none,0,by omega,rfl,rfl,hO,hb⟩
 case round =>
 obtain⟨k,VA,vc,hk,rfl,rfl,xe,xW⟩:=hrel
 by_cases z9:k<8
 ·have y7:=Wh n k;have yR:=xW.alloc xW.size (.cells #[.int .u8 ((n:Int)/2 ^ (56-8*k)%256)] 5);have tR:=xe.alloc (.cells #[.int .u8 ((n:Int)/2 ^ (56-8*k)%256)] 5);have HC:=Hh y7;clear y7;go_wp2_with (at_builtin;refine zh ?_)
  refine zv rfl (.tmp 9) (.tmp 14) rfl w.heap.size _ _ rfl tR _ 1 _ [WB n k] rfl rfl (Src.new _ _ _ _ rfl _ HC.out) (by simp[sQ];omega) yR.size fun v' w7 xj xQ hat7=>?_
  obtain⟨VA',vc',rfl,_⟩:=xj.form;have kW:(be8 n k++[WB n k]).length=k+1:=by simp[sQ]
  have oB:OwnB w7 w.heap.size (.slice VA' (k+1) vc') (be8 n (k+1)):=by
   rw[kW]at xj
   exact xj
  rw[kW];have uI:=jgJ;clear kW xQ hat7 tR xe yR xW xj;go_wp2_with fail
  go_roundw
  case rel=>exact⟨k+1,VA',vc',by omega,by go_num,rfl,oB,uI⟩
  case measure=>simp[intOf];omega
 have Ir:k=8:=by omega
 subst Ir;go_wp2_with fail
 go_ret
 exact⟨_,rfl,xe,xW⟩
theorem nB (a k:Nat) (ha:a<4294967296) (hk:k<32):bits .and .u32 (a:Int) ((2 ^ k-1:Nat):Int)=((a%2 ^ k:Nat):Int):=by
 have:2 ^ k<2 ^ 32:=Nat.pow_lt_pow_right (by omega) hk
 simp only[Nat.reducePow]at this
 rw[u32_and_nat a (2 ^ k-1) ha (by omega),Nat.and_two_pow_sub_one_eq_mod]
theorem Q3 (b k:Nat) (hb:b<2 ^ k) (hk:k<31):bits .or .u32 (b:Int) ((2 ^ k:Nat):Int)=((b+2 ^ k:Nat):Int):=by
 have h1:2 ^ k<2 ^ 31:=Nat.pow_lt_pow_right (by omega) hk
 simp only[Nat.reducePow]at h1
 rw[u32_or_nat _ _ (by omega) (by omega),Nat.or_comm];exact jc0
theorem kz (a k b:Nat) (hb:b<2 ^ k) (h:a*2 ^ k+b<65536):bits .or .u16 ((a*2 ^ k:Nat):Int) (b:Int)=((a*2 ^ k+b:Nat):Int):=by
 rw[u16_or_nat _ _ (by omega) (by omega),Nat.mul_comm,Nat.two_pow_add_eq_or_of_lt hb]
theorem Ns (q:Nat) (h:q<65536):IntKind.u16.wrap (q:Int)=(q:Int):=IntWalk.u16_in _ (by omega)
theorem TG (v:Nat) (hv:v<4294967296) (w:World) :
  Calls Tryz.prog 183 #[.int .u32 (v:Int)] w
   fun e w'=>(∃ h:Nat,e=.returned (.tuple #[.int .u16 (h:Int),.bool (e9 v).isSome])∧∀ x,e9 v=some x→h=x)∧w=w':=by
 have A1:=nB (v/2 ^ 23) 8 (by omega) (by omega);have A2:=nB v 23 hv (by omega)
 simp only[Nat.reducePow,Nat.reduceSub]at A1 A2
 rw[Int.natCast_ediv]at A1;obtain⟨ex,jo⟩:∃ ex,v/8388608%256=ex:=⟨_,rfl⟩
 obtain⟨mx,cf⟩:∃ mx,v%8388608=mx:=⟨_,rfl⟩
 obtain⟨sg,ag⟩:∃ sg,v/2147483648=sg:=⟨_,rfl⟩
 have xZ:sg≤1:=by omega
 have E:Hid (e9 v=if ex=255 then some (sg*32768+31744) else if ex=0 then(if mx=0 then some (sg*32768) else none)
   else if 113≤ex∧ex≤142 then(if mx%8192=0 then some (sg*32768+(ex-112)*1024+mx/8192) else none)
   else if 103≤ex∧ex<113 then(if(mx+8388608)%2 ^ (126-ex)=0 then some (sg*32768+(mx+8388608)/2 ^ (126-ex)) else none) else none):=by
  rw[Hid,e9]
  simp only[jo,cf,ag]
 rw[jo]at A1;rw[cf]at A2;have Ik:ex<256:=by omega
 have qq:mx<8388608:=by omega
 have A1':bits .and .u32 ((v:Int)/8388608) 255=(ex:Int):=A1;have A2':bits .and .u32 (v:Int) 8388607=(mx:Int):=A2;have K1:IntKind.i64.wrap (ex:Int)=(ex:Int):=IntWalk.i64_in _ (by omega)
 have KS:Hid (IntKind.u16.wrap ((v:Int)/2147483648*32768%4294967296)=((sg*2 ^ 15:Nat):Int)):=by
  have h:(v:Int)/2147483648*32768%4294967296=(sg:Int)*32768:=by omega
  simp only[Nat.reducePow]
  rw[Hid,h,IntWalk.u16_in _ (by omega)]
  omega
 clear hv jo cf ag A1 A2;go_enter Tryz.func183,Tryz.ntmps183
 go_wp2_with fail
 ·have h1:ex=255:=by
   have h:((ex:Int)==255)=true:=by assumption
   rw[beq_iff_eq]at h
   omega
  go_ret2
  have Iy:=kz sg 15 31744 (by omega) (by omega)
  refine⟨⟨sg*32768+31744, ?_, ?_⟩,rfl⟩
  ·show Ending.returned (Value.tuple #[Value.int .u16 _,Value.bool _])=_
   rw[KS.out,E.out,if_pos h1];rw[show(31744:Int)=((31744:Nat):Int) from rfl,Iy];rfl
  intro x hx
  rw[E.out,if_pos h1]at hx;injection hx
 all_goals
  have h1:¬ ex=255:=by
   have h:((ex:Int)==255)=false:=by assumption
   exact jbV
  rw[if_neg h1]at E
 ·have h2:ex=0:=by
   exact jcu
  rw[if_pos h2]at E;go_ret2
  refine⟨⟨sg*32768, ?_, ?_⟩,rfl⟩
  ·show Ending.returned (Value.tuple #[Value.int .u16 _,Value.bool _])=_
   rw[KS.out,E.out]
   exact jeS
  intro x hx
  rw[E.out]at hx
  exact jbA
 all_goals
  have h2:¬ ex=0:=by
   exact jeC
  rw[if_neg h2]at E
 ·have h3:113≤ex∧ex≤142:=by omega
  rw[if_pos h3]at E;obtain⟨q,hq⟩:∃ q,ex-112=q:=⟨_,rfl⟩
  have J0:((ex:Int)-112)*1024=((q*1024:Nat):Int):=by omega
  have WY:(mx:Int)/8192=((mx/8192:Nat):Int):=by omega
  have ha:=nB mx 13 (by omega) (by omega)
  simp only[Nat.reducePow,Nat.reduceSub]at ha
  have Ms:=kz sg 15 (q*1024) (by omega) (by omega);have SO:=kz (sg*2 ^ 5+q) 10 (mx/8192) (by omega) (by omega);rw[show(sg*2 ^ 5+q)*2 ^ 10=sg*2 ^ 15+q*1024 by omega]at SO;go_ret2
  refine⟨⟨sg*32768+q*1024+mx/8192, ?_, ?_⟩,rfl⟩
  ·show Ending.returned (Value.tuple #[Value.int .u16 _,Value.bool _])=_
   rw[KS.out,E.out,J0,WY,Ms,SO];have Sm:bits .and .u32 (mx:Int) 8191=((mx%8192:Nat):Int):=ha;rw[Sm]
   by_cases h:mx%8192=0
   ·rw[if_pos h,h];rfl
   rw[if_neg h];have:(((mx%8192:Nat):Int)==0)=false:=by rw[beq_eq_false_iff_ne];omega
   rw[this];rfl
  intro x hx
  rw[E.out,hq]at hx
  exact jbA
 ·exact jbP
 ·have h3:¬ (113≤ex∧ex≤142):=by omega
  have h4:103≤ex∧ex<113:=by omega
  rw[if_neg h3,if_pos h4]at E;obtain⟨sh,YQ⟩:∃ sh,126-ex=sh:=⟨_,rfl⟩
  obtain⟨full,ti⟩:∃ full,mx+8388608=full:=⟨_,rfl⟩
  have Ix:bits .or .u32 (mx:Int) 8388608=(full:Int):=by
   have:=Q3 mx 23 (by omega) (by omega)
   exact jcQ
  have hp:2 ^ sh<2 ^ 32:=Nat.pow_lt_pow_right (by omega) (by omega);have jp:0<2 ^ sh:=Nat.two_pow_pos sh
  simp only[Nat.reducePow]at hp
  have hwi:(2:Int) ^ sh=((2 ^ sh:Nat):Int):=by rw[Int.natCast_pow];rfl
  have hw:((2:Int) ^ sh-1)%4294967296=((2 ^ sh-1:Nat):Int):=by rw[hwi];omega
  have Ij:(full:Int)/2 ^ sh=((full/2 ^ sh:Nat):Int):=by
   exact jdi
  have z9:full/2 ^ sh<2 ^ 15:=by
   apply Nat.div_lt_of_lt_mul
   have h1:2 ^ 14≤2 ^ sh:=Nat.pow_le_pow_right (by omega) (by omega);have h2:2 ^ 14*2 ^ 15≤2 ^ sh*2 ^ 15:=Nat.mul_le_mul_right _ h1
   exact jcR
  have zAo:full/2 ^ sh<32768:=z9;have MH:IntKind.u16.wrap ((full/2 ^ sh:Nat):Int)=((full/2 ^ sh:Nat):Int):=Ns _ (by omega);have ho:=kz sg 15 (full/2 ^ sh) z9 (by simp only[Nat.reducePow];omega);have ha:=nB full sh (by omega) (by omega);go_ret2
  refine⟨⟨sg*32768+full/2 ^ sh, ?_, ?_⟩,rfl⟩
  ·show Ending.returned (Value.tuple #[Value.int .u16 _,Value.bool _])=_
   rw[KS.out,E.out,YQ,Ix,hw,ha,Ij,MH,ho,ti]
   exact jer
  intro x hx
  rw[E.out,YQ,ti]at hx
  exact jbA
 exact jbP
theorem Pg (n:Nat) (hN:isNaN n=false) (w:World):∃ r w',(convert 213 215 (.float .f64 n)).run Tryz.prog w=.ok (.float .f32 r) w'∧(w'=w∨w'=w.drew)∧r<4294967296∧(∀ s x f v,qZ n v s x f→r=v):=by
 have hs:Tryz.prog.underlying 213=some (.float .f64):=Tryz.underlying213;have hd:Tryz.prog.underlying 215=some (.float .f32):=Tryz.underlying215
 cases hb:floatToFloatBits .f64 n .f32 with
 | some r =>
  have ME:(Tryz.prog.underlying 213).isSome=true:=by rw[hs];rfl
  refine⟨r,w,run_convert_float_float (P:=Tryz.prog) (w:=w) 213 215 .f64 .f32 n r ME hd hb,.inl rfl, ?_, ?_⟩
  ·unfold floatToFloatBits at hb
   rw[if_neg (by decide)]at hb;have z9:∀ d:Ieee.Datum,FloatKind.encode .f32 d<4294967296:=fun d=>Ieee.single.write_lt d
   split at hb
   ·cases hb
   ·injection hb with hb;rw[← hb];exact z9 _
   split at hb
   ·cases hb
   injection hb with hb;rw[← hb];exact z9 _
  intro s x f v h
  have:=Vt h;rw[hb]at this;injection this
 | none =>
 have pf:=hb
 unfold floatToFloatBits at hb
 rw[if_neg (by decide)]at hb
 have uE:¬ (∃ a b,FloatKind.decode .f64 n=.nan a b):=by
  rintro⟨a,b,h⟩
  have:=Zt n;rw[hN]at this;have h':Ieee.double.read n=.nan a b:=h;rw[h']at this
  cases this
 cases hq:FloatKind.decode .f64 n with
 | nan a b=>exact absurd ⟨a,b,hq⟩ uE
 | infinity a=>rw[hq]at hb;cases hb
 | number a b c =>
 rw[hq]at hb
 simp only at hb
 split at hb
 ·rename_i ho
  refine⟨(Question.floatToFloat n).cut (w.tape w.drawn (Question.floatToFloat n)),w.drew, ?_,.inr rfl, ?_, ?_⟩
  ·simp[convert,run_underlying hs,run_underlying hd,Conv.floatToFloat,hq,ho,Question.forced]
  ·show _%2 ^ 32<4294967296
   omega
  intro s x f v h
  have:=Vt h;rw[pf]at this
  cases this
 cases hb
theorem Ph (r n:Nat) (hN:isNaN n=false) (hr:r<4294967296) (w:World):∃ m w',(convert 215 213 (.float .f32 r)).run Tryz.prog w=.ok (.float .f64 m) w'∧(w'=w∨w'=w.drew)∧(m=n→ye n 8 23=some r)∧(∀ s x f,qZ n r s x f→m=n):=by
 obtain⟨hs,hd⟩:=jhl
 cases hn:(Ieee.single.read r).isNaN with
 | false =>
  obtain⟨m,s,x,f,_,hx⟩:=ej hr hn;have hw:=bm hx;have ME:(Tryz.prog.underlying 215).isSome=true:=by rw[hs];rfl
  refine⟨m,w,run_convert_float_float (P:=Tryz.prog) (w:=w) 215 213 .f32 .f64 r m ME hd hw,.inl rfl, ?_, ?_⟩
  ·rintro rfl
   exact nh hx
  intro s' x' f' h
  have:=bm h;rw[hw]at this;injection this
 | true =>
 cases hq:FloatKind.decode .f32 r with
 | number a b c =>
  exact jdr
 | infinity a =>
  exact jdu
 | nan a b =>
 refine⟨(Question.nanConv .f64 r).cut (w.tape w.drawn (Question.nanConv .f64 r)),w.drew, ?_,.inr rfl, ?_, ?_⟩
 ·exact jc5
 ·intro h
  exfalso
  have Ri:isNaN ((Question.nanConv .f64 r).cut (w.tape w.drawn (Question.nanConv .f64 r)))=true:=by
   rw[k8];show(_%2*2 ^ 63+0x7ff0000000000000+1+_/2%(2 ^ 52-1))/2 ^ 52%2048=2047∧_
   generalize w.tape w.drawn (Question.nanConv .f64 r)=t
   show(t%2*2 ^ 63+0x7ff0000000000000+1+t/2%(2 ^ 52-1))/2 ^ 52%2048=2047∧(t%2*2 ^ 63+0x7ff0000000000000+1+t/2%(2 ^ 52-1))%2 ^ 52≠0
   exact jb7
  rw[h,hN]at Ri
  cases Ri
 intro s x f h
 have:=Xj h;have h':Ieee.single.read r=.nan a b:=hq;rw[h']at this
 split at this
 ·cases this
 split at this <;> cases this
theorem Fresh.step_ {w w1 w2:World}{l:List UInt8}{r:Value}(hb:Below w.heap.size w w1) (h:Fresh w1 l r w2):Fresh w l r w2:=⟨h.own.more hb.size,hb.trans (h.2.mono hb.size)⟩
theorem eS {n:Nat}(hn:n<18446744073709551616) (h:ye n 8 23=none):ye n 5 10=none:=by
 cases h5:ye n 5 10 with
 | none=>rfl
 | some v =>
 obtain⟨s,x,f,a1,a2,a3,a4,a5⟩:=eT hn h5
 have done:∀ {x' f':Nat},qZ n (s*2147483648+x'*8388608+f') s x' f'→False:=fun hx=>by
  rw[nh hx]at h
  cases h
 rcases a5 with ⟨c1,c2,c3⟩ | ⟨c1,c2,c3⟩ | ⟨c1,c2,c3⟩ | ⟨c1,t,full,c2,c3,c4,c5,c6,c7⟩
 ·exact(done (x':=255) (f':=0) ⟨a1,rfl,by omega,by omega,.inl ⟨rfl,rfl,c3⟩⟩).elim
 ·exact(done (x':=0) (f':=0) ⟨a1,rfl,by omega,by omega,.inr (.inl ⟨rfl,rfl,c3⟩)⟩).elim
 ·have C3:n=s*9223372036854775808+(x+112+896)*4503599627370496+f*8192*536870912:=by
   rw[c3,Nat.mul_assoc f 8192,Nat.add_assoc x 112]
  have C:=Hh C3;clear c3 C3;have g1:f*8192<8388608:=by omega
  have g2:x+112≤255:=by omega
  have g3:1≤x+112:=by omega
  have g4:x+112≤254:=by omega
  exact(done (x':=x+112) (f':=f*8192) ⟨a1,rfl,g1,g2,.inr (.inr (.inl ⟨g3,g4,C.out⟩))⟩).elim
 have C:=Hh c7;clear c7
 have e1:full=f*2 ^ (23-t)*536870912:=by
  rw[c5,Nat.mul_assoc,show(536870912:Nat)=2 ^ 29 from rfl,← Nat.pow_add,show 23-t+29=52-t by omega]
 have e2:2 ^ (t+1)*2 ^ (52-t)=9007199254740992:=by
  exact jbE
 have b2:=Nat.mul_lt_mul_of_pos_right c4 (Nat.two_pow_pos (52-t));rw[e2,← c5]at b2;obtain⟨q,hq⟩:∃ q,f*2 ^ (23-t)=q:=⟨_,rfl⟩
 rw[hq]at e1;have g0:8388608≤q∧q<16777216:=by clear a2;omega
 have g5:full-4503599627370496=(q-8388608)*536870912:=by clear a2;omega
 have g1:q-8388608<8388608:=by omega
 have g2:103+t≤255:=by omega
 have g3:1≤103+t:=by omega
 have g4:103+t≤254:=by omega
 have C3:n=s*9223372036854775808+(103+t+896)*4503599627370496+(q-8388608)*536870912:=by
  rw[C.out,g5,show 103+t+896=999+t by omega]
 exact(done (x':=103+t) (f':=q-8388608) ⟨a1,rfl,g1,g2,.inr (.inr (.inl ⟨g3,g4,C3⟩))⟩).elim
theorem qs (n:Nat) (hn:n<18446744073709551616) (w:World) :
  Calls Tryz.prog 142 #[.int .u64 (n:Int)] w fun e w'=>∃ r,e=.returned r∧Fresh w (yw n) r w':=by
 have r1:=xL n;have r2:=Tu n
 cases hN:isNaN n with
 | true =>
  rw[hN]at r2;have E:Hid (yw n=[u8 249,u8 126,u8 0]):=by rw[Hid,yw,if_pos hN]
  clear hN hn;go_enter Tryz.func142,Tryz.ntmps142
  exact jcU
 | false =>
 rw[hN]at r2;obtain⟨r,w1,Mo,tv,hr,hv⟩:=Pg n hN w;obtain⟨m,w2,SF,qE,qq,St⟩:=Ph r n hN hr w1
 have hb:Below w.heap.size w w2:=by
  rcases tv with rfl | rfl <;> rcases qE with rfl | rfl
  ·exact Below.refl _ _
  ·exact(Below.refl _ _).drew
  ·exact(Below.refl _ _).drew
  exact(Below.refl _ _).drew.drew
 have r3:=z6 m;have r4:=ZB r;have qD:=Hh hN
 cases h2:ye n 8 23 with
 | none =>
  have xp:m≠n:=fun h=>by rw[qq h]at h2;cases h2
  have b1:((m:Int) != (n:Int))=true:=by rw[bne_iff_ne];omega
  have p1:(m=n)=False:=eq_false xp;have E:Hid (yw n=u8 251::be8 n 8):=by rw[Hid,yw,if_neg (by simp[hN]),eS hn h2,h2]
  have WD:=Hh (fun w3:World=>TH n hn w3);have hO:=OwnB.lit w2 w.heap.size [u8 251] #[.int .u8 251] 1 rfl rfl hb.size (by simp);have rM:=hb.alloc hb.size (.cells #[.int .u8 251] 5);clear qq St hv hN hn h2 xp tv qE hr;go_enter Tryz.func142,Tryz.ntmps142
  go_wp2_with fail
  refine(WD.out _).mono ?_
  rintro e w3 ⟨rr,rfl,hf⟩
  obtain⟨RA,rc,rfl,_⟩:=hf.own.form;have tR:=hO.below hf.2;have yR:=rM.trans (hf.2.mono rM.size);go_wp2_with (at_builtin;refine zh ?_)
  refine zv rfl (.tmp 21) (.tmp 23) rfl w.heap.size _ _ rfl tR RA _ rc (be8 n 8) rfl rfl hf.own.src (by simp[sQ]) yR.size fun v' w7 xj xQ hat7=>?_
  have uI:=jgJ;clear xQ hat7 tR hf;go_wp2_with fail
  go_ret
  exact⟨_,rfl,by rw[E.out];exact⟨xj,uI⟩⟩
 | some v =>
 obtain⟨s,x,f,hx⟩:=eU hn h2;obtain rfl:=hv s x f v hx;obtain rfl:=St s x f hx;have b1:((m:Int) != (m:Int))=false:=by simp
 have HF:=NK hx;have HH:=Hh (fun w3:World=>TG r hr w3)
 cases h5:ye m 5 10 with
 | some q =>
  rw[h5]at HF;rw[HF]at HH;have E:Hid (yw m=[u8 249,u8 (q/256),u8 q]):=by rw[Hid,yw,if_neg (by simp[hN]),h5]
  clear qq St hv hN hn h2 tv qE hr hx HF h5;go_enter Tryz.func142,Tryz.ntmps142
  go_wp2_with fail
  refine(HH.out _).mono ?_
  rintro e w' ⟨⟨hq,rfl,he⟩,rfl⟩
  obtain rfl:=he q rfl;clear he;go_wp2_with fail
  go_ret
  refine⟨_,rfl, ?_⟩
  rw[E.out]
  refine(Fresh.lit w2 _ _ 3 rfl (by simp) ?_).step_ hb
  exact jcb
 | none =>
 rw[h5]at HF;rw[HF]at HH;have E:Hid (yw m=[u8 250,u8 (r/16777216),u8 (r/65536),u8 (r/256),u8 r]):=by rw[Hid,yw,if_neg (by simp[hN]),h5,h2]
 clear qq St hv hN hn h2 tv qE hr hx HF h5;go_enter Tryz.func142,Tryz.ntmps142
 go_wp2_with fail
 refine(HH.out _).mono ?_
 rintro e w' ⟨⟨hq,rfl,_⟩,rfl⟩
 go_wp2_with fail
 go_ret
 refine⟨_,rfl, ?_⟩
 rw[E.out]
 refine(Fresh.lit w2 _ _ 5 rfl (by simp) ?_).step_ hb
 exact jcb
theorem QM (s:ByteArray) (hl:s.size≤1099511627776) {H:Snap}(w:World) (hH:Holds w H) :
  Calls Tryz.prog 87 #[.string s] w fun e w'=>∃ v,e=.returned v∧Gives w H (.mk 3 0 s.data.toList []) v w':=by
 obtain⟨g,c,w1,hr,hb,H',hG,hi⟩:=Yg (hH.alloc zf) s hl;have hB:=(Blk.new w 77 #[.int .i64 0,.int .u64 0,.slice none 0 0,.slice none 0 0]).below hb
 have HI:Gives (w.alloc zf) H (.mk 3 0 s.data.toList []) (.agg #[.int .i64 3,.int .u64 0,.slice (some ⟨g,0,none⟩) s.size c,.slice none 0 0]) w1:=by
  refine⟨some ⟨g,0,none⟩,c,none,0,H',by simp[rG,Itm.kind,Itm.n,Itm.bytes,Itm.items],hG, ?_⟩
  rw[IsItem]
  exact⟨⟨by omega,by omega,by omega,Nat.le_refl _,by omega⟩,hi,fun h=>absurd h (by simp)⟩
 have HII:=Hh HI;clear hb hi HI;go_enter Tryz.func87,Tryz.ntmps87
 go_wp2_with (with_reducible refine zx ?_)
 refine stI hB fun w2 wm xq=>?_
 go_wp2_with fail
 refine xU rfl rfl wm rfl rfl zj rfl ?_
 exact⟨_,rfl,HII.out.own (zX _ _) hH xq (Nat.le_refl _) (by simp)⟩
structure IsInts (H:Snap) (A:Option Addr) (c:Nat) (l:List Int):Prop where
 le:l.length≤c
 max:c≤9223372036854775807
 row:Row H A (l.map (Value.int .i64))
 bnd:∀ x∈l, -9223372036854775808≤x∧x≤9223372036854775807
def Bc (w:World) (g:Nat) (H:Snap):Prop:=∃ (A:Option Addr) (c:Nat) (l:List Int) (k:Nat),Blk w g 83 #[.slice A l.length c,.int .i64 k]∧IsInts H A c l∧k≤l.length
def iF (v n:Int):Int:=if v.tmod n<0 then v.tmod n+n else v.tmod n
theorem Zi (v n:Int) (hn:0<n):0≤iF v n∧iF v n<n:=by
 have h1:=Int.tmod_lt_of_pos v hn;have h2 : -n<v.tmod n:=by have:=Int.tmod_lt_of_pos (-v) hn;rw[Int.neg_tmod]at this;omega
 unfold iF
 split <;> omega
theorem Xi (v n:Int) (hn:0<n) (cm:n≤1099511627776) (w:World) :
  Calls Tryz.prog 13 #[.int .i64 v,.int .i64 n] w fun e w'=>e=.returned (.int .i64 (iF v n))∧w=w':=by
 have h1:=Int.tmod_lt_of_pos v hn;have h2 : -n<v.tmod n:=by have:=Int.tmod_lt_of_pos (-v) hn;rw[Int.neg_tmod]at this;omega
 have wg:(n==0)=false:=by rw[beq_eq_false_iff_ne];omega
 have qf:(n=0)=False:=eq_false (by omega);have K1:IntKind.i64.wrap (v.tmod n)=v.tmod n:=IntWalk.i64_in _ (by omega)
 by_cases h0:v.tmod n<0
 ·have E:Hid (iF v n=v.tmod n+n):=by rw[Hid,iF,if_pos h0]
  go_enter Tryz.func13,Tryz.ntmps13
  exact jax
 have E:Hid (iF v n=v.tmod n):=by rw[Hid,iF,if_neg h0]
 go_enter Tryz.func13,Tryz.ntmps13
 exact jax
def gp (W:World):Snap:=fun b=>W.heap[b]?
theorem fh (W:World) (a:Addr):(gp W).cell? a=W.cell? a:=rfl
theorem Ym (W:World):Holds W (gp W):=fun _ _ h=>h
theorem Wx {W:World}(h:Lib.Utf8Tabs 0 1 W):Tabs (gp W):=fun _ hw =>
 ⟨fun c hc=>hw.cell (h.1 c hc),fun i hi=>⟨hw.cell (h.2 i hi).1,hw.cell (h.2 i hi).2⟩⟩
theorem Xg {n:Int}(h:(Lit.int .i64 n).wf=true) : -9223372036854775808≤n∧n≤9223372036854775807:=by
 exact jdf
theorem Ua {n:Int}(h:(Lit.int .u8 n).wf=true):0≤n∧n<256:=by
 exact jdf
theorem J7 {W:World}{a:Addr}{len cap:Nat}{zs:List Int}(hl:len≤cap) (hm:cap≤maxLen) (hz:len≤zs.length)
  (hc:∀ i,i<zs.length→W.cell? (a.add i)=some (.int .i64 (zs.getD i 0))) (wf:∀ n∈zs,(Lit.int .i64 n).wf=true):IsInts (gp W) (some a) cap (zs.take len)∧(zs.take len).length=len:=by
 have uu:(zs.take len).length=len:=by rw[List.length_take];omega
 refine⟨⟨by rw[uu];exact hl,by simpa [maxLen] using hm,fun xp=>?_,fun x hx=>Xg (wf x (List.mem_of_mem_take hx))⟩,uu⟩
 have h0:0<len:=by
  rcases Nat.eq_zero_or_pos len with h | h
  ·subst h;simp at xp
  exact h
 obtain⟨b,off,rfl,y7⟩:=ints_at hc (by omega)
 refine⟨b,off,rfl,fun j v hj=>?_⟩
 rw[List.getElem?_map]at hj;obtain⟨x,hx,rfl⟩:=Option.map_eq_some_iff.1 hj;have fH:=(List.getElem?_eq_some_iff.1 hx).1;rw[uu]at fH;rw[fh,y7 j (by omega)];rw[List.getElem?_take,if_pos fH]at hx
 simp[List.getD,hx]
def tG (zs:List Int):List UInt8:=zs.map fun n=>u8 n.toNat
theorem Wl {W:World}{a:Addr}{len cap:Nat}{zs:List Int}(hl:len≤cap) (hm:cap≤maxLen) (hz:len≤zs.length)
  (hc:∀ i,i<zs.length→W.cell? (a.add i)=some (.int .u8 (zs.getD i 0))) (wf:∀ n∈zs,(Lit.int .u8 n).wf=true):IsBytes (gp W) (some a) cap (tG (zs.take len))∧(tG (zs.take len)).length=len:=by
 have uu:(tG (zs.take len)).length=len:=by rw[tG,List.length_map,List.length_take];omega
 refine⟨⟨by rw[uu];exact hl,by simpa [maxLen] using hm,fun xp=>?_⟩,uu⟩
 have h0:0<len:=by
  rcases Nat.eq_zero_or_pos len with h | h
  ·subst h;simp[tG]at xp
  exact h
 obtain⟨b,off,rfl,y7⟩:=ints_at hc (by omega)
 refine⟨b,off,rfl,fun j v hj=>?_⟩
 rw[tG,List.map_map,List.getElem?_map]at hj;obtain⟨x,hx,rfl⟩:=Option.map_eq_some_iff.1 hj;rw[List.getElem?_take]at hx
 split at hx
 ·rename_i fH
  have hb:=Ua (wf x (List.mem_of_getElem? hx));rw[fh,y7 j (by omega)]
  simp[List.getD,hx,zu,gV]
  omega
 cases hx
def sH (a:UInt8):UInt8:=if a &&& 128=0 then a <<< 1 else(a <<< 1) ^^^ 27
def wu (b:UInt8) (k:Nat):UInt8:=UInt8.ofNat (b.toNat*2 ^ k%256+b.toNat/2 ^ (8-k))
def vE:Nat→UInt8
 | 0=>1
 | n+1=>vE n ^^^ sH (vE n)
def Ux (b:UInt8):UInt8:=b ^^^ 99 ^^^ wu b 1 ^^^ wu b 2 ^^^ wu b 3 ^^^ wu b 4
def mJ (n:Nat):List UInt8:=(List.range n).map vE++List.replicate (256-n) 0
def Xo (i:Nat):UInt8:=if i<255 then vE i else 0
def aK (i:Nat):UInt8:=if i<255 then vE ((255-i)%255) else 0
def tF (i:Nat):List UInt8:=i.rec (List.replicate 512 0) fun i l=>(l.set (Xo i).toNat (Ux (aK i))).set (256+(Ux (aK i)).toNat) (Xo i)
def wB (n:Nat) (f:Nat→UInt8) (a:List UInt8) (i:Nat):List UInt8:=(List.range n).map fun j=>if j<i then f j else a.getD j 0
theorem xJ (n:Nat) (f:Nat→UInt8) (a:List UInt8) (i:Nat):(wB n f a i).length=n:=by simp[wB]
theorem wW {n:Nat}(f:Nat→UInt8) {a:List UInt8}(h:a.length=n):wB n f a 0=a:=by
 apply List.ext_getElem (by simp[wB,h])
 intro j h1 h2
 simp[wB,List.getD_eq_getElem?_getD,List.getElem?_eq_getElem h2]
theorem tN (n:Nat) (f:Nat→UInt8) (a:List UInt8):wB n f a n=(List.range n).map f:=by
 apply List.ext_getElem (by simp[wB])
 intro j h1 h2
 have:j<n:=by simpa using h2
 simp[wB,this]
theorem uy {n i:Nat}(f:Nat→UInt8) (a:List UInt8) (h:i<n):(wB n f a i).set i (f i)=wB n f a (i+1):=by
 apply List.ext_getElem (by simp[wB])
 intro j h1 h2
 simp only[wB,List.getElem_set,List.getElem_map,List.getElem_range]
 by_cases e:i=j
 ·subst e;simp
 rw[if_neg e]
 by_cases e2:j<i
 ·rw[if_pos e2,if_pos (by omega)]
 rw[if_neg e2,if_neg (by omega)]
theorem Qc {n i j:Nat}(f:Nat→UInt8) (a:List UInt8) (h:i≤j) (hj:j<n):(wB n f a i).getD j 0=a.getD j 0:=by
 rw[List.getD_eq_getElem?_getD,List.getElem?_eq_getElem (by rw[xJ];exact hj),Option.getD_some]
 simp only[wB,List.getElem_map,List.getElem_range]
 rw[if_neg (by omega)]
def qN (a:UInt8) (m:Nat):UInt8:=if m=1 then a else if m=2 then sH a else a ^^^ sH a
def at_ (a:List UInt8) (i:Nat):UInt8:=a.getD i 0
def xA (a k:List UInt8):List UInt8:=(List.range 16).map fun i=>at_ a i ^^^ at_ k i
def ur (S a:List UInt8) (i:Nat):UInt8:=at_ S (at_ a (i%4+4*((i/4+i%4)%4))).toNat
def x8 (S a:List UInt8):List UInt8:=(List.range 16).map (ur S a)
def iE (a:List UInt8) (i k:Nat):UInt8:=qN (at_ a (4*(i/4)+(i%4+k)%4)) ([2,3,1,1].getD k 0)
def vQ (a:List UInt8):List UInt8:=(List.range 16).map fun i=>0 ^^^ iE a i 0 ^^^ iE a i 1 ^^^ iE a i 2 ^^^ iE a i 3
def rcU:Nat→UInt8
 | 0=>1
 | n+1=>sH (rcU n)
def jh (S:List UInt8) (w:List UInt8) (m:Nat):UInt8 :=
 at_ w (m-16) ^^^ (if m%16<4 then at_ S (at_ w (16*(m/16)-4+(m%16+1)%4)).toNat ^^^ (if m%16=0 then rcU (m/16-1) else 0) else at_ w (m-4))
def yG (S key:List UInt8):Nat→List UInt8
 | 0=>key
 | n+1=>yG S key n++[jh S (yG S key n) (16+n)]
theorem vx (S key:List UInt8) (h:key.length=16) (n:Nat):(yG S key n).length=16+n:=by
 induction n with
 | zero=>simp[yG,h]
 | succ n ih=>simp[yG,ih];omega
theorem pE (S key:List UInt8) (h:key.length=16) {m n j:Nat}(hm:m≤n) (hj:j<16+m):at_ (yG S key n) j=at_ (yG S key m) j:=by
 induction n with
 | zero=>rw[show m=0 by omega]
 | succ n ih =>
 by_cases e:m=n+1
 ·rw[e]
 have hl:=vx S key h n;rw[← ih (by omega),yG,at_,at_,List.getD_eq_getElem?_getD,List.getElem?_append_left (by omega),← List.getD_eq_getElem?_getD]
def si (S key:List UInt8) (i:Nat):List UInt8:=(List.range 16).map fun k=>at_ (yG S key 160) (16*i+k)
def WG (S key:List UInt8) (i:Nat) (a:List UInt8):List UInt8:=xA (if i<10 then vQ (x8 S a) else x8 S a) (si S key i)
def pz (S key b:List UInt8):Nat→List UInt8
 | 0=>xA b (si S key 0)
 | n+1=>WG S key (n+1) (pz S key b n)
def ri:List UInt8:=(tF 256).take 256
def pN (key b:List UInt8):List UInt8:=pz ri key b 10
theorem yX (a k:List UInt8):(xA a k).length=16:=by simp[xA]
theorem o4 (S key b:List UInt8) (n:Nat):(pz S key b n).length=16:=by cases n <;> simp[pz,WG,xA]
theorem t7 (key b:List UInt8):(pN key b).length=16:=o4 _ _ _ _
theorem Va (f:Nat→UInt8) {n k:Nat}(h:k<n):at_ ((List.range n).map f) k=f k:=by
 exact jcP
theorem gd {l:List UInt8}{k:Nat}(h:k<l.length):at_ l k=l[k]:=by
 exact jcP
theorem dU (a:UInt8):BitVec.ofInt 8 (a.toNat:Int)=a.toBitVec:=by
 rw[BitVec.ofInt_natCast]
 exact BitVec.eq_of_toNat_eq (by rw[BitVec.toNat_ofNat];exact Nat.mod_eq_of_lt a.toNat_lt)
theorem Qe (b:BitVec 8):IntKind.u8.wrap (b.toNat:Int)=(b.toNat:Int):=by
 have:=b.isLt;rw[IntKind.wrap_u8]
 omega
theorem yx (a b:UInt8):bits .xor .u8 (a.toNat:Int) (b.toNat:Int)=((a ^^^ b).toNat:Int):=by
 show IntKind.u8.wrap ((BitVec.ofInt 8 (a.toNat:Int) ^^^ BitVec.ofInt 8 (b.toNat:Int)).toNat:Int)=_
 rw[dU,dU,Qe];rfl
theorem Qj {p:UInt8→Prop}(h:∀ n,n<256→p (UInt8.ofNat n)) (a:UInt8):p a:=by
 have:=h a.toNat a.toNat_lt;rwa [UInt8.ofNat_toNat]at this
theorem N9:∀ n:Nat,n<256→(bits .and .u8 ((UInt8.ofNat n).toNat:Int) 128=0↔(UInt8.ofNat n) &&& 128=0)∧IntKind.u8.wrap (((UInt8.ofNat n).toNat:Int)*2)=(((UInt8.ofNat n) <<< 1).toNat:Int)∧bits .xor .u8 (((UInt8.ofNat n) <<< 1).toNat:Int) 27=((((UInt8.ofNat n) <<< 1) ^^^ 27).toNat:Int)∧((UInt8.ofNat n).toNat/128=1↔¬ (UInt8.ofNat n) &&& 128=0)∧sH (UInt8.ofNat n) ^^^ UInt8.ofNat n=UInt8.ofNat n ^^^ sH (UInt8.ofNat n):=by
 decide +kernel
theorem jx (a:UInt8):(bits .and .u8 (a.toNat:Int) 128=0↔a &&& 128=0)∧IntKind.u8.wrap ((a.toNat:Int)*2)=((a <<< 1).toNat:Int)∧bits .xor .u8 ((a <<< 1).toNat:Int) 27=(((a <<< 1) ^^^ 27).toNat:Int)∧(a.toNat/128=1↔¬ a &&& 128=0)∧sH a ^^^ a=a ^^^ sH a :=
 Qj (p:=fun a=>(bits .and .u8 (a.toNat:Int) 128=0↔a &&& 128=0)∧IntKind.u8.wrap ((a.toNat:Int)*2)=((a <<< 1).toNat:Int)∧bits .xor .u8 ((a <<< 1).toNat:Int) 27=(((a <<< 1) ^^^ 27).toNat:Int)∧(a.toNat/128=1↔¬ a &&& 128=0)∧sH a ^^^ a=a ^^^ sH a) N9 a
theorem Nd:∀ n:Nat,n<256→∀ k:Nat,k<5→bits .or .u8 (IntKind.u8.wrap (((UInt8.ofNat n).toNat:Int)*2 ^ k)) (((UInt8.ofNat n).toNat:Int)/2 ^ (8-k))=((wu (UInt8.ofNat n) k).toNat:Int):=by
 decide +kernel
theorem dk (a:UInt8) {k:Nat}(h:k<5):bits .or .u8 (IntKind.u8.wrap ((a.toNat:Int)*2 ^ k)) ((a.toNat:Int)/2 ^ (8-k))=((wu a k).toNat:Int) :=
 Qj (p:=fun a=>∀ k,k<5→bits .or .u8 (IntKind.u8.wrap ((a.toNat:Int)*2 ^ k)) ((a.toNat:Int)/2 ^ (8-k))=((wu a k).toNat:Int)) Nd a k h
def SrcR (w:World) (A:Option Addr) (ls:List (List UInt8)):Prop:=0<ls.length→∃ b off,A=some ⟨b,off,none⟩∧∀ j (hj:j<ls.length),∃ Aj cj,w.cell? ⟨b,off+j,none⟩=some (.slice Aj ls[j].length cj)∧Src w Aj (ls[j].map zu)
theorem xC (ls:List (List UInt8)) (k:Nat) (hk:k<ls.length):(ls.drop k).flatten=ls[k]++(ls.drop (k+1)).flatten:=by
 rw[List.drop_eq_getElem_cons hk,List.flatten_cons]
theorem OwnB.take_ {w:World}{base:Nat}{A:Option Addr}{n c:Nat}{l:List UInt8}(h:OwnB w base (.slice A n c) l) {k:Nat}(hk:k≤l.length):OwnB w base (.slice A k c) (l.take k):=by
 have uh:(l.take k).length=k:=by rw[List.length_take];omega
 refine⟨by simp, ?_⟩
 rw[uh]
 rcases h.2 with ⟨hv,hz⟩ | ⟨g,cap,cur,hv,hb,hg,hc,hm,hcz,ht⟩
 ·cases hv
  have:k=0:=by omega
  subst this
  exact .inl ⟨rfl,rfl⟩
 cases hv
 refine .inr ⟨g,c,cur,rfl,hb,hg,by omega,hm,hcz, ?_⟩
 rw[List.map_take,← ht,List.take_take,show min k (l.length*1)=k*1 by omega]
theorem OwnB.store_ {w:World}{base:Nat}{A:Option Addr}{n c:Nat}{l:List UInt8}(h:OwnB w base (.slice A n c) l) {k:Nat}(hk:k<l.length):∃ g cur,A=some ⟨g,0,none⟩∧base≤g∧Blk w g 5 cur∧k<cur.size∧
  ∀ (w':World) (x:UInt8),Blk w' g 5 (cur.setIfInBounds k (zu x))→OwnB w' base (.slice A n c) (l.set k x):=by
 rcases h.2 with ⟨hv,hz⟩ | ⟨g,cap,cur,hv,hb,hg,hc,hm,hcz,ht⟩
 ·omega
 cases hv
 refine⟨g,cur,rfl,hb,hg,by omega,fun w' x hB=>⟨by simp,.inr ⟨g,c,_,by simp,hb,hB,by simpa using hc,hm,by rw[Array.size_setIfInBounds,hcz], ?_⟩⟩⟩
 rw[Array.toList_setIfInBounds,List.length_set,List.take_set,ht,List.map_set]
theorem QX:(Tryz.prog.info? 5).map (·.size)=some 1:=by kernel_rfl
def oU:Nat→Nat→List UInt8
 | 0,_=>[]
 | k+1,n=>oU k (n/256)++[UInt8.ofNat (n%256)]
theorem Vc (k n:Nat):(oU k n).length=k:=by
 induction k generalizing n with
 | zero=>rfl
 | succ k ih=>simp[oU,ih]
theorem gG (k n:Nat):oU (k+1) n=UInt8.ofNat (n/256 ^ k%256)::oU k n:=by
 induction k generalizing n with
 | zero=>simp[oU]
 | succ k ih =>
 rw[oU,ih,oU,List.cons_append,Nat.div_div_eq_div_mul,Nat.pow_succ,Nat.mul_comm 256]
theorem PY (j k n:Nat) (h:n/256 ^ j=0):oU (j+k) n=List.replicate k 0++oU j n:=by
 induction k with
 | zero=>rfl
 | succ k ih =>
 have e:n/256 ^ (j+k)=0:=by
  rw[Nat.pow_add,← Nat.div_div_eq_div_mul,h,Nat.zero_div]
 rw[show j+(k+1)=(j+k)+1 by omega,gG,ih,e,List.replicate_succ];rfl
def lP (f:UInt8) (nonce:List UInt8) (n j:Nat):List UInt8:=f::(nonce++(List.replicate (15-nonce.length-j) 0++oU j n))
def uQ (f:UInt8) (nonce:List UInt8) (n:Nat):List UInt8:=f::(nonce++oU (15-nonce.length) n)
theorem sA (f:UInt8) {nonce:List UInt8}(h:nonce.length≤13) (n:Nat):(uQ f nonce n).length=16:=by
 rw[uQ,List.length_cons,List.length_append,Vc];omega
theorem Pi (f:UInt8) {nonce:List UInt8}{j:Nat}(h:nonce.length+j≤15) (n:Nat):(lP f nonce n j).length=16:=by
 simp only[lP,List.length_cons,List.length_append,Vc,List.length_replicate];omega
theorem TO (f:UInt8) {nonce:List UInt8}{n j:Nat}(h:nonce.length+j=15):lP f nonce n j=uQ f nonce n:=by
 rw[lP,uQ,show 15-nonce.length-j=0 by omega,show 15-nonce.length=j by omega];rfl
theorem TN (f:UInt8) {nonce:List UInt8}{n j:Nat}(hj:nonce.length+j≤15) (h:n/256 ^ j=0):lP f nonce n j=uQ f nonce n:=by
 rw[lP,uQ,← PY j (15-nonce.length-j) n h,show j+(15-nonce.length-j)=15-nonce.length by omega]
theorem Pj (f:UInt8) {nonce:List UInt8}{n j:Nat}(h:nonce.length+j<15):(lP f nonce n j).set (15-j) (UInt8.ofNat (n/256 ^ j%256))=lP f nonce n (j+1):=by
 obtain⟨z,hz⟩:∃ z,15-nonce.length-j=z+1:=⟨15-nonce.length-j-1,by omega⟩
 rw[lP,lP,gG,hz,show 15-nonce.length-(j+1)=z by omega,show 15-j=(nonce.length+z)+1 by omega,List.set_cons_succ,List.set_append_right _ _ (by omega),List.replicate_succ',List.append_assoc,List.set_append_right _ _ (by simp),show nonce.length+z-nonce.length-(List.replicate z (0:UInt8)).length=0 by simp];rfl
def uZ (key b x:List UInt8):Nat→List UInt8
 | 0=>x
 | j+1=>pN key (xA (uZ key b x j) ((b.drop (16*j)).take 16))
def kK (key x b:List UInt8):List UInt8:=uZ key b x ((b.length+15)/16)
theorem TY (key b:List UInt8) {x:List UInt8}(h:x.length=16) (j:Nat):(uZ key b x j).length=16:=by
 cases j with
 | zero=>exact h
 | succ j=>exact t7 _ _
theorem qx (key b:List UInt8) {x:List UInt8}(h:x.length=16):(kK key x b).length=16:=TY _ _ h _
def pW (aad:List UInt8):List UInt8:=UInt8.ofNat (aad.length/256%256)::UInt8.ofNat (aad.length%256)::aad
def vK (nonce aad:List UInt8) (t:Nat):UInt8:=UInt8.ofNat (8*(t/2-1)+14-nonce.length+if aad.length=0 then 0 else 64)
def firstS (nonce:List UInt8):UInt8:=UInt8.ofNat (14-nonce.length)
def oH (key nonce aad plain:List UInt8) (t:Nat):List UInt8 :=
 kK key (if aad.length=0 then kK key (List.replicate 16 0) (uQ (vK nonce aad t) nonce plain.length) else kK key (kK key (List.replicate 16 0) (uQ (vK nonce aad t) nonce plain.length)) (pW aad)) plain
theorem lA (key nonce aad plain:List UInt8) (t:Nat):(oH key nonce aad plain t).length=16:=by
 rw[oH]
 refine qx _ _ ?_
 split
 ·exact qx _ _ rfl
 exact qx _ _ (qx _ _ rfl)
def pY (key nonce text:List UInt8) (k:Nat):UInt8:=at_ text k ^^^ at_ (pN key (uQ (firstS nonce) nonce (k/16+1))) (k%16)
def qC (key nonce text:List UInt8):List UInt8:=(List.range text.length).map (pY key nonce text)
def uD (key nonce tag:List UInt8):List UInt8:=xA tag (pN key (uQ (firstS nonce) nonce 0))
def tj (key nonce aad plain:List UInt8) (t:Nat):List UInt8:=qC key nonce plain++(uD key nonce (oH key nonce aad plain t)).take t
def tO (key nonce cipher:List UInt8) (t:Nat):List UInt8:=qC key nonce (cipher.take (cipher.length-t))
def qM (key nonce aad cipher:List UInt8) (t:Nat):Bool:=(uD key nonce (cipher.drop (cipher.length-t))).take t==(oH key nonce aad (tO key nonce cipher t) t).take t
theorem vA (key nonce text:List UInt8):(qC key nonce text).length=text.length:=by simp[qC]
theorem kE (key nonce aad plain:List UInt8) {t:Nat}(ht:t≤16):(tj key nonce aad plain t).length=plain.length+t:=by
 rw[tj,List.length_append,vA,List.length_take,uD,yX];omega
theorem kH (f:Nat→UInt8) {n k:Nat}(h:k<n):at_ ((List.range n).map f) k=f k:=by
 exact jcP
theorem mX {l:List UInt8}{k:Nat}(h:k<l.length):at_ l k=l[k]:=by
 exact jcP
theorem kG (a b:UInt8):a ^^^ b ^^^ b=a:=by rw[UInt8.xor_assoc,UInt8.xor_self,UInt8.xor_zero]
theorem Xa (key nonce text:List UInt8):qC key nonce (qC key nonce text)=text:=by
 apply List.ext_getElem (by rw[vA,vA])
 intro k h1 h2
 have h3:at_ (qC key nonce text) k=pY key nonce text k:=kH _ h2;rw[← mX h1];rw[show at_ (qC key nonce (qC key nonce text)) k=pY key nonce (qC key nonce text) k from kH _ (by rw[vA];exact h2),pY,h3,pY,kG,mX h2]
theorem Q0 (key nonce tag:List UInt8) (h:tag.length=16) {t:Nat}(ht:t≤16):(uD key nonce ((uD key nonce tag).take t)).take t=tag.take t:=by
 have l1:(uD key nonce tag).length=16:=yX _ _;apply List.ext_getElem (by simp[uD,yX,h])
 intro k h1 h2
 have hk:k<t∧k<16:=by simp[h]at h2;omega
 rw[List.getElem_take,List.getElem_take,← mX,uD,xA,kH _ hk.2,mX (by rw[List.length_take];omega),List.getElem_take,← mX (by omega),uD,xA,kH _ hk.2,kG,mX (by omega)]
theorem lh (a:UInt8) (w:World) :
  Calls Tryz.prog 158 #[zu a] w fun e w'=>e=.returned (zu (sH a))∧w=w':=by
 obtain⟨h1,h2,h3,_⟩:=jx a
 by_cases h:a &&& 128=0
 ·have e0:bits .and .u8 (a.toNat:Int) 128=0:=h1.2 h;have E:Hid (zu (sH a)=.int .u8 (IntKind.u8.wrap ((a.toNat:Int)*2))):=by rw[Hid,sH,if_pos h,h2]
  clear h1 h2 h3 h;go_enter Tryz.func158,Tryz.ntmps158
  exact jax
 have e0:¬ bits .and .u8 (a.toNat:Int) 128=0:=fun e=>h (h1.1 e)
 have e1:(bits .and .u8 (a.toNat:Int) 128 != 0)=true:=by rw[bne_iff_ne];exact e0
 have e2:(bits .and .u8 (a.toNat:Int) 128=0)=False:=eq_false e0;have E:Hid (zu (sH a)=.int .u8 (bits .xor .u8 (IntKind.u8.wrap ((a.toNat:Int)*2)) 27)):=by rw[Hid,sH,if_neg h,h2,h3]
 clear h1 h2 h3 h e0;go_enter Tryz.func158,Tryz.ntmps158
 exact jax
theorem Yc (a:UInt8) (m:Nat) (hm:m=1∨m=2∨m=3) (w:World) :
  Calls Tryz.prog 212 #[zu a,.int .u8 (m:Int)] w fun e w'=>e=.returned (zu (qN a m))∧w=w':=by
 obtain⟨_,_,_,_,hc⟩:=jx a;have D:=Hh (fun b w=>lh b w);have z0:bits .and .u8 (1:Int) 1=1:=by kernel_rfl
 have z1:bits .and .u8 (2:Int) 1=0:=by kernel_rfl
 have z2:bits .and .u8 (3:Int) 1=1:=by kernel_rfl
 have x0:bits .xor .u8 0 (a.toNat:Int)=(a.toNat:Int):=by have:=yx 0 a;rwa [UInt8.zero_xor]at this
 have x1:bits .xor .u8 0 ((sH a).toNat:Int)=((sH a).toNat:Int):=by have:=yx 0 (sH a);rwa [UInt8.zero_xor]at this
 have x2:=yx a (sH a)
 rcases hm with rfl | rfl | rfl
 ·go_enter Tryz.func212,Tryz.ntmps212
  go_wp2_with fail
  refine wp_loop_rounds 2 ?_
  exact je4
 ·exact jd0
 exact jd0
theorem T9 (b:UInt8) (k:Nat) (hk:k=1∨k=2∨k=3∨k=4) (w:World) :
  Calls Tryz.prog 159 #[zu b,.int .i64 (k:Int)] w fun e w'=>e=.returned (zu (wu b k))∧w=w':=by
 have R:=dk b (show k<5 by omega);have E:Hid (zu (wu b k)=.int .u8 (bits .or .u8 (IntKind.u8.wrap ((b.toNat:Int)*2 ^ k)) ((b.toNat:Int)/2 ^ (8-k)))):=by rw[Hid,R]
 clear R
 rcases hk with rfl | rfl | rfl | rfl
 ·have e1:bits .and .u64 1 7=1:=by kernel_rfl
  have e2:IntKind.u64.wrap (8-1)=7:=by kernel_rfl
  rw[show((1:Nat):Int)=1 from rfl];exact jew
 ·have e1:bits .and .u64 2 7=2:=by kernel_rfl
  have e2:IntKind.u64.wrap (8-2)=6:=by kernel_rfl
  rw[show((2:Nat):Int)=2 from rfl];exact jew
 ·have e1:bits .and .u64 3 7=3:=by kernel_rfl
  have e2:IntKind.u64.wrap (8-3)=5:=by kernel_rfl
  rw[show((3:Nat):Int)=3 from rfl];exact jew
 have e1:bits .and .u64 4 7=4:=by kernel_rfl
 have e2:IntKind.u64.wrap (8-4)=4:=by kernel_rfl
 rw[show((4:Nat):Int)=4 from rfl];exact jew
def zn (l:List UInt8):Array Value:=(l.map zu).toArray
theorem zg (l:List UInt8):(zn l).size=l.length:=by simp[zn]
theorem zI (l:List UInt8) (i:Nat) (h:i<l.length):(zn l)[i]? = some (zu (at_ l i)):=by
 simp[zn,at_,List.getD_eq_getElem?_getD,h]
theorem xS (l:List UInt8) (i:Nat) (u:UInt8):(zn l).setIfInBounds i (zu u)=zn (l.set i u):=by
 simp[zn,List.map_set]
theorem ym (l:List UInt8):(zn l).all (·.oneCell')=true:=by simp[zn,Value.oneCell']
theorem yH:(Tryz.prog.info? 5).map (·.size)=some 1:=by kernel_rfl
theorem vy {P:Program}{ops:Array Oper}{Q:Exit→Act→World→Prop}{rest:List Oper}{a:Act}{w:World}{dst:Option Tmp}{x:Operand}{T:TypeId}{pos:String}{af:Array Edge}{g:Option (Nat×Bool)}(ty:TypeId)
  (h:zZ (wpList P ops Q (⟨dst,.load ty x,T,pos,af,g⟩::rest) a w)):wpList P ops Q (⟨dst,.load ty x,T,pos,af,g⟩::rest) a w:=h
def oG (l:List UInt8) (off n:Nat):List UInt8:=(l.drop off).take n
theorem gU {l:List UInt8}{off n:Nat}(h:off+n≤l.length):(oG l off n).length=n:=by
 rw[oG,List.length_take,List.length_drop];omega
theorem xT {l:List UInt8}{n:Nat}(h:l.length=n):oG l 0 n=l:=by rw[oG,List.drop_zero,← h,List.take_length]
theorem Vw {l:List UInt8}{off n k:Nat}(hk:k<n):at_ (oG l off n) k=at_ l (off+k):=by
 simp only[at_,oG,List.getD_eq_getElem?_getD,List.getElem?_take,if_pos hk,List.getElem?_drop]
theorem qv {w:World}{g:Nat}{t:TypeId}{l:List UInt8}(hB:Blk w g t (zn l)) (off n:Nat):w.rangeAt g off ((oG l off n).map zu):=by
 intro j v hj
 refine hB.cell _ ?_
 rw[List.getElem?_map,oG,List.getElem?_take]at hj
 split at hj
 ·rw[List.getElem?_drop]at hj
  simp only[zn,List.getElem?_toArray,List.getElem?_map]
  exact hj
 cases hj
theorem zM {w:World}{ops:Array Oper}{rest:List Oper}{o:Oper}{a:Act}{Q:Exit→Act→World→Prop}(hgd:o.guard=none) (ty:TypeId) (x:Operand) (ho:o.op=.load ty x)
  (g off n:Nat) (hx:a.eval x=.pointer (some ⟨g,off,none⟩)) {t:TypeId} {l:List UInt8} (hB:Blk w g t (zn l)) (hn:off+n≤l.length) (d:TypeDesc)
  (hu:Tryz.prog.underlying ty=some d) (hd:d.isRow=true) (hi:(Tryz.prog.info? ty).map (·.size)=some n)
  (h:wpList Tryz.prog ops Q rest (a.put o.dst (.agg (zn (oG l off n)))) w):wpList Tryz.prog ops Q (o::rest) a w :=
 wpList_load_mid hgd ty x ho g off hx ((oG l off n).map zu) d (qv hB off n) hu hd (by rw[List.length_map,gU hn];exact hi) h
theorem df:∀ (vs l:List UInt8) (off:Nat),iH (zn l) off (vs.map zu)=zn (l.take off++vs++l.drop (off+vs.length))∨l.length<off+vs.length
 | [],l,off=>by
  left
  rw[List.map_nil,iH,List.append_nil,List.length_nil,Nat.add_zero,List.take_append_drop]
 | v::vs,l,off=>by
  by_cases h:l.length<off+(v::vs).length
  ·exact .inr h
  left
  rw[List.length_cons]at h;rw[List.map_cons,iH,xS]
  rcases df vs (l.set off v) (off+1) with e | e
  ·rw[e];congr 1
   rw[List.drop_set_of_lt (by omega),List.length_cons,show off+1+vs.length=off+(vs.length+1) by omega,List.take_set,List.take_add_one,List.getElem?_eq_getElem (by omega),List.set_append_right _ _ (by rw[List.length_take];omega)];rw[List.length_take,Nat.min_eq_left (by omega),Nat.sub_self]
   simp
  rw[List.length_set]at e;omega
def spl (l:List UInt8) (off:Nat) (vs:List UInt8):List UInt8:=l.take off++vs++l.drop (off+vs.length)
theorem xy {w:World}{ops:Array Oper}{rest:List Oper}{o:Oper}{a:Act}{Q:Exit→Act→World→Prop}(hgd:o.guard=none) (ty:TypeId) (x y:Operand) (ho:o.op=.store ty x y)
  (hd:o.dst=none) (g off:Nat) (vs:List UInt8) (hx:a.eval x=.pointer (some ⟨g,off,none⟩)) (hy:a.eval y=.agg (zn vs))
  {t:TypeId} {l:List UInt8} (hB:Blk w g t (zn l)) (hi:(Tryz.prog.info? ty).map (·.size)=some vs.length) (hold:off+vs.length≤l.length)
  (h:∀ w',Blk w' g t (zn (spl l off vs))→w.grownBy w' (some g)→wpList Tryz.prog ops Q rest a w') :
  wpList Tryz.prog ops Q (o::rest) a w:=by
 refine pj hgd ty x y ho hd g off (zn vs) hx hy t _ hB (by rw[zg];exact hi) (by rw[zg,zg];exact hold) (ym _) fun w' h2 h3=>h w' ?_ h3
 rcases df vs l off with e | e
 ·rw[show(zn vs).toList=vs.map zu by simp[zn],e]at h2
  exact h2
 omega
theorem pH {l vs:List UInt8}(h:vs.length=l.length):spl l 0 vs=vs:=by
 rw[spl,List.take_zero,List.nil_append,Nat.zero_add,h,List.drop_length,List.append_nil]
theorem Nm {l vs:List UInt8}{off:Nat}(h:off+vs.length≤l.length):(spl l off vs).length=l.length:=by
 simp only[spl,List.length_append,List.length_take,List.length_drop];omega
end Go.Proofs.YtkmlnjociijpgaaGreatDoor
