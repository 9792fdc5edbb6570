/- squeezed. Numbers of several words: the scho -/
import Derived.Test.YtnfoilblmhbobaaGreatDoorK01
import Derived.KernelRfl
import Derived.Deep.Cut
set_option linter.unusedVariables false
set_option linter.unusedSimpArgs false
set_option maxRecDepth 100000
set_option maxHeartbeats 3200000
namespace Go.Proofs.YtnfoilblmhbobaaGreatDoor
def num:List Nat→Nat
 | []=>0
 | x::l=>x+18446744073709551616*num l
def W64 (l:List Nat):Prop:=∀ x∈l,x<18446744073709551616
def yR (x:Nat):List Nat→List Nat→Nat→List Nat
 | y::ys,z::zs,c=>(z+x*y+c)%18446744073709551616::yR x ys zs ((z+x*y+c)/18446744073709551616)
 | _,_,_=>[]
theorem pq (x:Nat):∀ (ys zs:List Nat) (c:Nat),zs.length≤ys.length→(yR x ys zs c).length=zs.length
 | _,[],_,_=>by simp[yR]
 | [],z::zs,_,h=>by simp at h
 | y::ys,z::zs,c,h=>by simp[yR,pq x ys zs _ (by simpa using h)]
theorem m9 (x:Nat):∀ (ys zs:List Nat) (c:Nat),W64 (yR x ys zs c)
 | _,[],_=>by simp[yR,W64]
 | [],z::zs,_=>by simp[yR,W64]
 | y::ys,z::zs,c=>by
  intro a ha
  simp only[yR,List.mem_cons]at ha
  rcases ha with rfl | ha
  ·exact Nat.mod_lt _ (by decide)
  exact m9 x ys zs _ a ha
theorem pr (x:Nat):∀ (ys zs:List Nat) (c:Nat),zs.length≤ys.length→
  num (yR x ys zs c)%18446744073709551616 ^ zs.length=(num zs+x*num ys+c)%18446744073709551616 ^ zs.length
 | _,[],_,_=>by simp[Nat.mod_one]
 | [],z::zs,_,h=>by simp at h
 | y::ys,z::zs,c,h=>by
  have ih:=pr x ys zs ((z+x*y+c)/18446744073709551616) (by simpa using h)
  simp only[yR,num,List.length_cons,Nat.pow_succ]
  generalize hD:(18446744073709551616:Nat)=D at *
  generalize hP:D ^ zs.length=P at *
  have YV:0<D:=by omega
  have e:z+D*num zs+x*(y+D*num ys)+c=(z+x*y+c)%D+D*(num zs+x*num ys+(z+x*y+c)/D):=by
   have:=Nat.mod_add_div (z+x*y+c) D;have e2:x*(y+D*num ys)=x*y+D*(x*num ys):=by rw[Nat.mul_add,Nat.mul_left_comm]
   rw[e2,Nat.mul_add,Nat.mul_add]
   omega
  rw[e,Nat.mul_comm P D,Nat.mod_mul,Nat.mod_mul];have z6:(z+x*y+c)%D<D:=Nat.mod_lt _ YV
  generalize (z+x*y+c)%D=r at *
  rw[Nat.add_mul_mod_self_left,Nat.add_mul_mod_self_left,Nat.mod_eq_of_lt z6,Nat.add_mul_div_left _ _ YV,Nat.add_mul_div_left _ _ YV,Nat.div_eq_of_lt z6,Nat.zero_add,Nat.zero_add,ih]
theorem eE:∀ {l:List Nat},W64 l→num l<18446744073709551616 ^ l.length
 | [],_=>by simp[num]
 | x::l,h=>by
  have h1:x<18446744073709551616:=h x (by simp);have h2:=eE (l:=l) (fun a ha=>h a (by simp[ha]))
  simp only[num,List.length_cons,Nat.pow_succ]
  generalize 18446744073709551616 ^ l.length=P at *
  omega
def zC:List Nat→List Nat→List Nat→List Nat
 | x::xs,ys,z::zs=>match yR x ys (z::zs) 0 with
  | a::r=>a::zC xs ys r
  | []=>[]
 | _,_,zs=>zs
theorem ru:∀ (xs ys zs:List Nat),xs.length=zs.length→zs.length≤ys.length→W64 zs→
  (zC xs ys zs).length=zs.length∧W64 (zC xs ys zs)∧num (zC xs ys zs)%18446744073709551616 ^ zs.length=(num zs+num xs*num ys)%18446744073709551616 ^ zs.length
 | [],_,[],_,_,_=>by simp[zC,W64,Nat.mod_one]
 | [],_,_::_,h,_,_=>by simp at h
 | _::_,_,[],h,_,_=>by simp at h
 | x::xs,ys,z::zs,hx,hy,hw=>by
  obtain⟨a,r,hr⟩:∃ a r,yR x ys (z::zs) 0=a::r:=by
   cases ys with
   | nil=>simp at hy
   | cons y ys=>exact⟨_,_,rfl⟩
  have hl:=pq x ys (z::zs) 0 hy;have hn:=pr x ys (z::zs) 0 hy;have YJ:=m9 x ys (z::zs) 0;rw[hr]at hl hn YJ;have Vs:r.length=zs.length:=by simpa using hl
  have ih:=ru xs ys r (by rw[Vs];simpa using hx) (by rw[Vs];simp at hy;omega) (fun b hb=>YJ b (by simp[hb]));rw[Vs]at ih;have ha:a<18446744073709551616:=YJ a (by simp)
  refine⟨by simp[zC,hr,ih.1], ?_, ?_⟩
  ·intro b hb
   simp only[zC,hr,List.mem_cons]at hb
   rcases hb with rfl | hb
   ·exact ha
   exact ih.2.1 b hb
  have e:=ih.2.2
  simp only[zC,hr,num,List.length_cons,Nat.pow_succ,Nat.add_zero]at hn⊢
  generalize hD:(18446744073709551616:Nat)=D at *
  generalize hP:D ^ zs.length=P at *
  have YV:0<D:=by omega
  rw[Nat.mul_comm P D]at hn⊢
  have e1:(a+D*num (zC xs ys r))%(D*P)=(a+D*(num r+num xs*num ys))%(D*P):=by
   rw[Nat.mod_mul,Nat.mod_mul,Nat.add_mul_mod_self_left,Nat.add_mul_mod_self_left,Nat.add_mul_div_left _ _ YV,Nat.add_mul_div_left _ _ YV,Nat.div_eq_of_lt ha,Nat.zero_add,Nat.zero_add,e]
  rw[e1,Nat.mul_add,← Nat.add_assoc,Nat.add_mod,hn,← Nat.add_mod,Nat.add_mul,Nat.mul_assoc D,Nat.add_assoc,Nat.add_assoc]
theorem qE {x y:List Nat}(hx:x.length=4) (hy:y.length=4) :
  (zC x y [0,0,0,0]).length=4∧W64 (zC x y [0,0,0,0])∧(num x*num y<18446744073709551616 ^ 4→num (zC x y [0,0,0,0])=num x*num y):=by
 have h:=ru x y [0,0,0,0] (by simp[hx]) (by simp[hy]) (by simp[W64])
 refine⟨by simpa using h.1,h.2.1,fun hb=>?_⟩
 have h2:=eE h.2.1;have e:=h.2.2;have hz:num [0,0,0,0]=0:=by decide
 rw[h.1]at h2
 simp only[List.length_cons,List.length_nil,hz,Nat.zero_add,Nat.reduceAdd]at h2 e
 rwa [Nat.mod_eq_of_lt h2,Nat.mod_eq_of_lt hb]at e
theorem lU {n a b g:Nat}(hn:n≠0) (h1:a ^ n≤g) (h2:g<(a+1) ^ n) (h3:b ^ n≤g) (h4:g<(b+1) ^ n):a=b:=by
 rcases Nat.lt_trichotomy a b with h | h | h
 ·have:=Nat.pow_le_pow_left (show a+1≤b by omega) n
  omega
 ·exact h
 have:=Nat.pow_le_pow_left (show b+1≤a by omega) n
 omega
theorem dS {x y z c:Nat}(hx:x<18446744073709551616) (hy:y<18446744073709551616) (hz:z<18446744073709551616) (hc:c<18446744073709551616) :
  x*y/18446744073709551616+(x*y%18446744073709551616+c)/18446744073709551616<18446744073709551616∧
  x*y/18446744073709551616+(x*y%18446744073709551616+c)/18446744073709551616+(z+(x*y%18446744073709551616+c)%18446744073709551616)/18446744073709551616=(z+x*y+c)/18446744073709551616∧
  (z+(x*y%18446744073709551616+c)%18446744073709551616)%18446744073709551616=(z+x*y+c)%18446744073709551616∧(z+x*y+c)/18446744073709551616<18446744073709551616:=by
 have:=Nat.mul_le_mul (show x≤18446744073709551615 by omega) (show y≤18446744073709551615 by omega)
 generalize x*y=p at *
 omega
end Go.Proofs.YtnfoilblmhbobaaGreatDoor
namespace Go.Proofs.YtnfoilblmhbobaaGreatDoor
def xx:List Nat:=[2,3,5,7,11,13,17,19,23,29,31,37,41,43,47,53,59,61,67,71,73,79,83,89,97,101,103,107,109,113,127,131,137,139,149,151,157,163,167,173,179,181,191,193,197,199,211,223,227,229,233,239,241,251,257,263,269,271,277,281,283,293,307,311,313,317,331,337,347,349,353,359,367,373,379,383,389,397,401,409]
def vZ:List Nat:=[4794697086780616226,8158064640168781261,13096744586834688815,16840607885511220156,4131703408338449720,6480981068601479193,10538285296894168987,12329834152419229976,15566598209576043074,1334009975649890238,2608012711638119052,6128411473006802146,8268148722764581231,9286055187155687089,11230858885718282805,13951009754708518548,16472876342353939154,17275323862435702243,1135362057144423861,2597628984639134821,3308224258029322869,5365058923640841347,6679025012923562964,8573033837759648693,10970295158949994411,12119686244451234320,12683024718118986047,13788192230050041572,14330467153632333762,15395433587784984357,489312712824947311,1452737877330783856,2861767655752347644,3322285676063803686,5560940570517711597,5996557281743188959,7280758554555802590,8532644243296465576,9350256976987008742,10552545826968843579,11727347734174303076,12113106623233404929,14000437183269869457,14369950271660146224,15101387698204529176,15463397548674623760,17586052441742319658,1182934255886127544,1847814050463011016,2177327727835720531,2830643537854262169,3796741975233480872,4115178125766777443,5681478168544905931,6601373596472566643,7507060721942968483,8399075790359081724,8693463985226723168,9568029438360202098,10144078919501101548,10430055236837252648,11840083180663258601,13761210420658862357,14299343276471374635,14566680578165727644,15097957966210449927,16922976911328602910,17689382322260857208,500013540394364858,748580250866718886,1242879168328830382,1977374033974150939,2944078676154940804,3659926193048069267,4368137639120453308,4836135668995329356,5532061633213252278,6448918945643986474,6902733635092675308,7801388544844847127]
def xy:List Nat:=[7640891576956012808,13503953896175478587,4354685564936845355,11912009170470909681,5840696475078001361,11170449401992604703,2270897969802886507,6620516959819538809]
def tx (n p c:Nat):Bool:=(List.range 21).any fun w=>decide ((w*18446744073709551616+c) ^ n≤p*18446744073709551616 ^ n)&&decide (p*18446744073709551616 ^ n<(w*18446744073709551616+c+1) ^ n)
end Go.Proofs.YtnfoilblmhbobaaGreatDoor
namespace Go.Proofs.YtnfoilblmhbobaaGreatDoor
def zF (l:List Nat) (i:Nat):Nat:=l.getD i 0
theorem nL {l:List Nat}(h:W64 l) (i:Nat):zF l i<18446744073709551616:=by
 unfold zF
 rcases Nat.lt_or_ge i l.length with h1 | h1
 ·rw[List.getD_eq_getElem?_getD,List.getElem?_eq_getElem h1]
  exact h _ (List.getElem_mem h1)
 rw[List.getD_eq_getElem?_getD,List.getElem?_eq_none h1];decide
theorem wl {l:List Nat}{i:Nat}(h:i<l.length):l.drop i=zF l i::l.drop (i+1):=by
 rw[List.drop_eq_getElem_cons h]
 simp[zF,h]
theorem W64.set {l:List Nat}(h:W64 l) (i:Nat) {n:Nat}(hn:n<18446744073709551616):W64 (l.set i n):=fun a ha=>by
 rcases List.mem_or_eq_of_mem_set ha with h1 | h1
 ·exact h a h1
 rw[h1];exact hn
theorem mM {l:List Nat}{k u:Nat}(h:k<l.length):(l.set k u).take (k+1)=l.take k++[u]∧(l.set k u).drop (k+1)=l.drop (k+1):=by
 have e:l.set k u=l.take k++u::l.drop (k+1):=by rw[List.set_eq_take_append_cons_drop,if_pos h]
 have hl:(l.take k).length=k:=by rw[List.length_take];omega
 constructor
 ·rw[e,List.take_append,hl,List.take_of_length_le (by omega),Nat.add_sub_cancel_left];rfl
 rw[e,List.drop_append,hl,List.drop_of_length_le (by omega),Nat.add_sub_cancel_left];rfl
theorem lf {zs ys:List Nat}{x c k j:Nat}(hk:k<zs.length) (hj:j<ys.length) :
  (zs.set k ((zF zs k+x*zF ys j+c)%18446744073709551616)).take (k+1)++yR x (ys.drop (j+1)) ((zs.set k ((zF zs k+x*zF ys j+c)%18446744073709551616)).drop (k+1)) ((zF zs k+x*zF ys j+c)/18446744073709551616) =
  zs.take k++yR x (ys.drop j) (zs.drop k) c:=by
 rw[(mM hk).1,(mM hk).2,wl hk,wl hj,yR,List.append_assoc];rfl
theorem lh {x y zs zs':List Nat}{i:Nat}(hi:i<x.length) (hz:i<zs.length) (hy:0<y.length) (h:zs'=zs.take i++yR (zF x i) y (zs.drop i) 0) :
  zs'.take (i+1)++zC (x.drop (i+1)) y (zs'.drop (i+1))=zs.take i++zC (x.drop i) y (zs.drop i):=by
 have hl:(zs.take i).length=i:=by rw[List.length_take];omega
 obtain⟨a,r,hr⟩:∃ a r,yR (zF x i) y (zs.drop i) 0=a::r:=by
  rw[wl hz]
  cases y with
  | nil=>simp at hy
  | cons b y=>exact⟨_,_,rfl⟩
 have e1:zs'.take (i+1)=zs.take i++[a]:=by
  rw[h,hr,List.take_append,hl,List.take_of_length_le (by omega),Nat.add_sub_cancel_left];rfl
 have e2:zs'.drop (i+1)=r:=by
  rw[h,hr,List.drop_append,hl,List.drop_of_length_le (by omega),Nat.add_sub_cancel_left];rfl
 rw[e1,e2,wl hi];rw[wl hz]at hr⊢;rw[zC,hr,List.append_assoc];rfl
theorem jQ (x:Nat) (ys:List Nat) (c:Nat):yR x ys [] c=[]:=by cases ys <;> rfl
theorem lL (ys zs:List Nat):zC [] ys zs=zs:=by cases zs <;> rfl
end Go.Proofs.YtnfoilblmhbobaaGreatDoor
namespace Go.Proofs.YtnfoilblmhbobaaGreatDoor
open Go.RowKit
def yB (a b x:Int):Int:=bits .or .u32 (x*a%4294967296) (x/b)
theorem pd (x:Int) (w:World) :
  Calls Tryz.prog 101 #[.int .u32 x,.int .i64 (-17)] w fun e w'=>e=.returned (.int .u32 (yB 32768 131072 x))∧w=w':=by
 have e1:bits .and .u64 (IntKind.u64.wrap (-17)) 31=15:=by kernel_rfl
 have e2:IntKind.u64.wrap (32-15)=17:=by kernel_rfl
 go_enter Tryz.func101,Tryz.ntmps101
 go_wp2_with fail
 go_ret
 exact⟨rfl,rfl⟩
theorem gY (x:Int) (w:World) :
  Calls Tryz.prog 86 #[.int .u32 x,.int .i64 17] w fun e w'=>e=.returned (.int .u32 (yB 32768 131072 x))∧w=w':=by
 have R:=Hh (pd x w);go_enter Tryz.func86,Tryz.ntmps86
 go_wp2_with fail
 refine R.out.mono ?_
 rintro e w1 ⟨rfl,rfl⟩
 go_wp2_with fail
 go_ret
 exact⟨rfl,rfl⟩
theorem gO (x:Int) (w:World) :
  Calls Tryz.prog 88 #[.int .u32 x,.int .i64 17] w fun e w'=>e=.returned (.int .u32 (yB 32768 131072 x))∧w=w':=by
 have R:=Hh (pd x w);go_enter Tryz.func88,Tryz.ntmps88
 go_wp2_with fail
 refine R.out.mono ?_
 rintro e w1 ⟨rfl,rfl⟩
 go_wp2_with fail
 go_ret
 exact⟨rfl,rfl⟩
theorem pf (x:Int) (w:World) :
  Calls Tryz.prog 101 #[.int .u32 x,.int .i64 (-19)] w fun e w'=>e=.returned (.int .u32 (yB 8192 524288 x))∧w=w':=by
 have e1:bits .and .u64 (IntKind.u64.wrap (-19)) 31=13:=by kernel_rfl
 have e2:IntKind.u64.wrap (32-13)=19:=by kernel_rfl
 go_enter Tryz.func101,Tryz.ntmps101
 go_wp2_with fail
 go_ret
 exact⟨rfl,rfl⟩
theorem ga (x:Int) (w:World) :
  Calls Tryz.prog 86 #[.int .u32 x,.int .i64 19] w fun e w'=>e=.returned (.int .u32 (yB 8192 524288 x))∧w=w':=by
 have R:=Hh (pf x w);go_enter Tryz.func86,Tryz.ntmps86
 go_wp2_with fail
 refine R.out.mono ?_
 rintro e w1 ⟨rfl,rfl⟩
 go_wp2_with fail
 go_ret
 exact⟨rfl,rfl⟩
theorem gQ (x:Int) (w:World) :
  Calls Tryz.prog 88 #[.int .u32 x,.int .i64 19] w fun e w'=>e=.returned (.int .u32 (yB 8192 524288 x))∧w=w':=by
 have R:=Hh (pf x w);go_enter Tryz.func88,Tryz.ntmps88
 go_wp2_with fail
 refine R.out.mono ?_
 rintro e w1 ⟨rfl,rfl⟩
 go_wp2_with fail
 go_ret
 exact⟨rfl,rfl⟩
theorem o6 (x:Int) (w:World) :
  Calls Tryz.prog 101 #[.int .u32 x,.int .i64 (-7)] w fun e w'=>e=.returned (.int .u32 (yB 33554432 128 x))∧w=w':=by
 have e1:bits .and .u64 (IntKind.u64.wrap (-7)) 31=25:=by kernel_rfl
 have e2:IntKind.u64.wrap (32-25)=7:=by kernel_rfl
 go_enter Tryz.func101,Tryz.ntmps101
 go_wp2_with fail
 go_ret
 exact⟨rfl,rfl⟩
theorem dm (x:Int) (w:World) :
  Calls Tryz.prog 86 #[.int .u32 x,.int .i64 7] w fun e w'=>e=.returned (.int .u32 (yB 33554432 128 x))∧w=w':=by
 have R:=Hh (o6 x w);go_enter Tryz.func86,Tryz.ntmps86
 go_wp2_with fail
 refine R.out.mono ?_
 rintro e w1 ⟨rfl,rfl⟩
 go_wp2_with fail
 go_ret
 exact⟨rfl,rfl⟩
theorem dg (x:Int) (w:World) :
  Calls Tryz.prog 88 #[.int .u32 x,.int .i64 7] w fun e w'=>e=.returned (.int .u32 (yB 33554432 128 x))∧w=w':=by
 have R:=Hh (o6 x w);go_enter Tryz.func88,Tryz.ntmps88
 go_wp2_with fail
 refine R.out.mono ?_
 rintro e w1 ⟨rfl,rfl⟩
 go_wp2_with fail
 go_ret
 exact⟨rfl,rfl⟩
theorem pe (x:Int) (w:World) :
  Calls Tryz.prog 101 #[.int .u32 x,.int .i64 (-18)] w fun e w'=>e=.returned (.int .u32 (yB 16384 262144 x))∧w=w':=by
 have e1:bits .and .u64 (IntKind.u64.wrap (-18)) 31=14:=by kernel_rfl
 have e2:IntKind.u64.wrap (32-14)=18:=by kernel_rfl
 go_enter Tryz.func101,Tryz.ntmps101
 go_wp2_with fail
 go_ret
 exact⟨rfl,rfl⟩
theorem gZ (x:Int) (w:World) :
  Calls Tryz.prog 86 #[.int .u32 x,.int .i64 18] w fun e w'=>e=.returned (.int .u32 (yB 16384 262144 x))∧w=w':=by
 have R:=Hh (pe x w);go_enter Tryz.func86,Tryz.ntmps86
 go_wp2_with fail
 refine R.out.mono ?_
 rintro e w1 ⟨rfl,rfl⟩
 go_wp2_with fail
 go_ret
 exact⟨rfl,rfl⟩
theorem gP (x:Int) (w:World) :
  Calls Tryz.prog 88 #[.int .u32 x,.int .i64 18] w fun e w'=>e=.returned (.int .u32 (yB 16384 262144 x))∧w=w':=by
 have R:=Hh (pe x w);go_enter Tryz.func88,Tryz.ntmps88
 go_wp2_with fail
 refine R.out.mono ?_
 rintro e w1 ⟨rfl,rfl⟩
 go_wp2_with fail
 go_ret
 exact⟨rfl,rfl⟩
theorem o5 (x:Int) (w:World) :
  Calls Tryz.prog 101 #[.int .u32 x,.int .i64 (-6)] w fun e w'=>e=.returned (.int .u32 (yB 67108864 64 x))∧w=w':=by
 have e1:bits .and .u64 (IntKind.u64.wrap (-6)) 31=26:=by kernel_rfl
 have e2:IntKind.u64.wrap (32-26)=6:=by kernel_rfl
 go_enter Tryz.func101,Tryz.ntmps101
 go_wp2_with fail
 go_ret
 exact⟨rfl,rfl⟩
theorem dl (x:Int) (w:World) :
  Calls Tryz.prog 86 #[.int .u32 x,.int .i64 6] w fun e w'=>e=.returned (.int .u32 (yB 67108864 64 x))∧w=w':=by
 have R:=Hh (o5 x w);go_enter Tryz.func86,Tryz.ntmps86
 go_wp2_with fail
 refine R.out.mono ?_
 rintro e w1 ⟨rfl,rfl⟩
 go_wp2_with fail
 go_ret
 exact⟨rfl,rfl⟩
theorem df (x:Int) (w:World) :
  Calls Tryz.prog 88 #[.int .u32 x,.int .i64 6] w fun e w'=>e=.returned (.int .u32 (yB 67108864 64 x))∧w=w':=by
 have R:=Hh (o5 x w);go_enter Tryz.func88,Tryz.ntmps88
 go_wp2_with fail
 refine R.out.mono ?_
 rintro e w1 ⟨rfl,rfl⟩
 go_wp2_with fail
 go_ret
 exact⟨rfl,rfl⟩
theorem pZ (x:Int) (w:World) :
  Calls Tryz.prog 101 #[.int .u32 x,.int .i64 (-11)] w fun e w'=>e=.returned (.int .u32 (yB 2097152 2048 x))∧w=w':=by
 have e1:bits .and .u64 (IntKind.u64.wrap (-11)) 31=21:=by kernel_rfl
 have e2:IntKind.u64.wrap (32-21)=11:=by kernel_rfl
 go_enter Tryz.func101,Tryz.ntmps101
 go_wp2_with fail
 go_ret
 exact⟨rfl,rfl⟩
theorem gW (x:Int) (w:World) :
  Calls Tryz.prog 86 #[.int .u32 x,.int .i64 11] w fun e w'=>e=.returned (.int .u32 (yB 2097152 2048 x))∧w=w':=by
 have R:=Hh (pZ x w);go_enter Tryz.func86,Tryz.ntmps86
 go_wp2_with fail
 refine R.out.mono ?_
 rintro e w1 ⟨rfl,rfl⟩
 go_wp2_with fail
 go_ret
 exact⟨rfl,rfl⟩
theorem gM (x:Int) (w:World) :
  Calls Tryz.prog 88 #[.int .u32 x,.int .i64 11] w fun e w'=>e=.returned (.int .u32 (yB 2097152 2048 x))∧w=w':=by
 have R:=Hh (pZ x w);go_enter Tryz.func88,Tryz.ntmps88
 go_wp2_with fail
 refine R.out.mono ?_
 rintro e w1 ⟨rfl,rfl⟩
 go_wp2_with fail
 go_ret
 exact⟨rfl,rfl⟩
theorem pj (x:Int) (w:World) :
  Calls Tryz.prog 101 #[.int .u32 x,.int .i64 (-25)] w fun e w'=>e=.returned (.int .u32 (yB 128 33554432 x))∧w=w':=by
 have e1:bits .and .u64 (IntKind.u64.wrap (-25)) 31=7:=by kernel_rfl
 have e2:IntKind.u64.wrap (32-7)=25:=by kernel_rfl
 go_enter Tryz.func101,Tryz.ntmps101
 go_wp2_with fail
 go_ret
 exact⟨rfl,rfl⟩
theorem gf (x:Int) (w:World) :
  Calls Tryz.prog 86 #[.int .u32 x,.int .i64 25] w fun e w'=>e=.returned (.int .u32 (yB 128 33554432 x))∧w=w':=by
 have R:=Hh (pj x w);go_enter Tryz.func86,Tryz.ntmps86
 go_wp2_with fail
 refine R.out.mono ?_
 rintro e w1 ⟨rfl,rfl⟩
 go_wp2_with fail
 go_ret
 exact⟨rfl,rfl⟩
theorem gS (x:Int) (w:World) :
  Calls Tryz.prog 88 #[.int .u32 x,.int .i64 25] w fun e w'=>e=.returned (.int .u32 (yB 128 33554432 x))∧w=w':=by
 have R:=Hh (pj x w);go_enter Tryz.func88,Tryz.ntmps88
 go_wp2_with fail
 refine R.out.mono ?_
 rintro e w1 ⟨rfl,rfl⟩
 go_wp2_with fail
 go_ret
 exact⟨rfl,rfl⟩
theorem o4 (x:Int) (w:World) :
  Calls Tryz.prog 101 #[.int .u32 x,.int .i64 (-2)] w fun e w'=>e=.returned (.int .u32 (yB 1073741824 4 x))∧w=w':=by
 have e1:bits .and .u64 (IntKind.u64.wrap (-2)) 31=30:=by kernel_rfl
 have e2:IntKind.u64.wrap (32-30)=2:=by kernel_rfl
 go_enter Tryz.func101,Tryz.ntmps101
 go_wp2_with fail
 go_ret
 exact⟨rfl,rfl⟩
theorem dk (x:Int) (w:World) :
  Calls Tryz.prog 86 #[.int .u32 x,.int .i64 2] w fun e w'=>e=.returned (.int .u32 (yB 1073741824 4 x))∧w=w':=by
 have R:=Hh (o4 x w);go_enter Tryz.func86,Tryz.ntmps86
 go_wp2_with fail
 refine R.out.mono ?_
 rintro e w1 ⟨rfl,rfl⟩
 go_wp2_with fail
 go_ret
 exact⟨rfl,rfl⟩
theorem de (x:Int) (w:World) :
  Calls Tryz.prog 88 #[.int .u32 x,.int .i64 2] w fun e w'=>e=.returned (.int .u32 (yB 1073741824 4 x))∧w=w':=by
 have R:=Hh (o4 x w);go_enter Tryz.func88,Tryz.ntmps88
 go_wp2_with fail
 refine R.out.mono ?_
 rintro e w1 ⟨rfl,rfl⟩
 go_wp2_with fail
 go_ret
 exact⟨rfl,rfl⟩
theorem pa (x:Int) (w:World) :
  Calls Tryz.prog 101 #[.int .u32 x,.int .i64 (-13)] w fun e w'=>e=.returned (.int .u32 (yB 524288 8192 x))∧w=w':=by
 have e1:bits .and .u64 (IntKind.u64.wrap (-13)) 31=19:=by kernel_rfl
 have e2:IntKind.u64.wrap (32-19)=13:=by kernel_rfl
 go_enter Tryz.func101,Tryz.ntmps101
 go_wp2_with fail
 go_ret
 exact⟨rfl,rfl⟩
theorem gX (x:Int) (w:World) :
  Calls Tryz.prog 86 #[.int .u32 x,.int .i64 13] w fun e w'=>e=.returned (.int .u32 (yB 524288 8192 x))∧w=w':=by
 have R:=Hh (pa x w);go_enter Tryz.func86,Tryz.ntmps86
 go_wp2_with fail
 refine R.out.mono ?_
 rintro e w1 ⟨rfl,rfl⟩
 go_wp2_with fail
 go_ret
 exact⟨rfl,rfl⟩
theorem gN (x:Int) (w:World) :
  Calls Tryz.prog 88 #[.int .u32 x,.int .i64 13] w fun e w'=>e=.returned (.int .u32 (yB 524288 8192 x))∧w=w':=by
 have R:=Hh (pa x w);go_enter Tryz.func88,Tryz.ntmps88
 go_wp2_with fail
 refine R.out.mono ?_
 rintro e w1 ⟨rfl,rfl⟩
 go_wp2_with fail
 go_ret
 exact⟨rfl,rfl⟩
theorem pi (x:Int) (w:World) :
  Calls Tryz.prog 101 #[.int .u32 x,.int .i64 (-22)] w fun e w'=>e=.returned (.int .u32 (yB 1024 4194304 x))∧w=w':=by
 have e1:bits .and .u64 (IntKind.u64.wrap (-22)) 31=10:=by kernel_rfl
 have e2:IntKind.u64.wrap (32-10)=22:=by kernel_rfl
 go_enter Tryz.func101,Tryz.ntmps101
 go_wp2_with fail
 go_ret
 exact⟨rfl,rfl⟩
theorem gc (x:Int) (w:World) :
  Calls Tryz.prog 86 #[.int .u32 x,.int .i64 22] w fun e w'=>e=.returned (.int .u32 (yB 1024 4194304 x))∧w=w':=by
 have R:=Hh (pi x w);go_enter Tryz.func86,Tryz.ntmps86
 go_wp2_with fail
 refine R.out.mono ?_
 rintro e w1 ⟨rfl,rfl⟩
 go_wp2_with fail
 go_ret
 exact⟨rfl,rfl⟩
theorem gR (x:Int) (w:World) :
  Calls Tryz.prog 88 #[.int .u32 x,.int .i64 22] w fun e w'=>e=.returned (.int .u32 (yB 1024 4194304 x))∧w=w':=by
 have R:=Hh (pi x w);go_enter Tryz.func88,Tryz.ntmps88
 go_wp2_with fail
 refine R.out.mono ?_
 rintro e w1 ⟨rfl,rfl⟩
 go_wp2_with fail
 go_ret
 exact⟨rfl,rfl⟩
def yX (l:List Int):Array Value:=(l.map (Value.int .u32)).toArray
def yb (l:List Int) (i:Nat):Int:=l.getD i 0
theorem xc (l:List Int):(yX l).size=l.length:=by simp[yX]
theorem yQ (l:List Int) (i:Nat) (h:i<l.length):(yX l)[i]? = some (.int .u32 (yb l i)):=by
 simp[yX,yb,h]
theorem vY (l:List Int) (i:Nat) (v:Int):(yX l).setIfInBounds i (.int .u32 v)=yX (l.set i v):=by
 simp[yX,List.map_set]
def xz (bs:List UInt8) (i:Nat):Int:=((bs.getD i 0).toNat:Int)
def ij (b0 b1 b2 b3:Int):Int:=bits .or .u32 (bits .or .u32 (bits .or .u32 (IntKind.u32.wrap (IntKind.u32.wrap b0*16777216)) (IntKind.u32.wrap (IntKind.u32.wrap b1*65536))) (IntKind.u32.wrap (IntKind.u32.wrap b2*256))) (IntKind.u32.wrap b3)
def bm (x y w7 w16:Int):Int :=
 IntKind.u32.wrap (IntKind.u32.wrap (IntKind.u32.wrap (bits .xor .u32 (bits .xor .u32 (yB 32768 131072 y) (yB 8192 524288 y)) (y/1024)+w7)+bits .xor .u32 (bits .xor .u32 (yB 33554432 128 x) (yB 16384 262144 x)) (x/8))+w16)
structure S8 where
 a:Int
 b:Int
 c:Int
 d:Int
 e:Int
 f:Int
 g:Int
 h:Int
def S8.cells (s:S8):Array Value:=#[.int .u32 s.a,.int .u32 s.b,.int .u32 s.c,.int .u32 s.d,.int .u32 s.e,.int .u32 s.f,.int .u32 s.g,.int .u32 s.h]
def S8.list (s:S8):List Int:=[s.a,s.b,s.c,s.d,s.e,s.f,s.g,s.h]
theorem S8.cells_eq (s:S8):s.cells=yX s.list:=rfl
theorem S8.one (s:S8):s.cells.all (·.oneCell')=true:=by simp[S8.cells,Value.oneCell']
def tP (s:S8) (k w:Int):Int :=
 s.h+bits .xor .u32 (bits .xor .u32 (yB 67108864 64 s.e) (yB 2097152 2048 s.e)) (yB 128 33554432 s.e)+bits .xor .u32 (bits .and .u32 s.e s.f) (bits .and .u32 (bits .xor .u32 IntKind.u32.max s.e) s.g)+k+w
def uP (s:S8):Int :=
 bits .xor .u32 (bits .xor .u32 (yB 1073741824 4 s.a) (yB 524288 8192 s.a)) (yB 1024 4194304 s.a)+bits .xor .u32 (bits .xor .u32 (bits .and .u32 s.a s.b) (bits .and .u32 s.a s.c)) (bits .and .u32 s.b s.c)
def jr (s:S8) (k w:Int):S8:=⟨(tP s k w+uP s)%4294967296,s.a,s.b,s.c,(s.d+tP s k w)%4294967296,s.e,s.f,s.g⟩
def yI (K W:List Int) (h:S8):Nat→S8
 | 0=>h
 | k+1=>jr (yI K W h k) (yb K k) (yb W k)
def zS (bs:List UInt8):Nat→List Int
 | 0=>List.replicate 64 0
 | k+1=>(zS bs k).set k (if k<16 then ij (xz bs (4*k)) (xz bs (4*k+1)) (xz bs (4*k+2)) (xz bs (4*k+3))
   else bm (yb (zS bs k) (k-15)) (yb (zS bs k) (k-2)) (yb (zS bs k) (k-7)) (yb (zS bs k) (k-16)))
theorem z9 (bs:List UInt8):∀ k,(zS bs k).length=64
 | 0=>by simp[zS]
 | k+1=>by simp[zS,z9 bs k]
theorem oP (bs:List UInt8) (k:Nat) (h:k<16):(yX (zS bs k)).setIfInBounds k (.int .u32 (ij (xz bs (4*k)) (xz bs (4*k+1)) (xz bs (4*k+2)) (xz bs (4*k+3))))=yX (zS bs (k+1)):=by
 rw[vY,zS,if_pos h]
theorem oO (bs:List UInt8) (k:Nat) (h:16≤k):(yX (zS bs k)).setIfInBounds k (.int .u32 (bm (yb (zS bs k) (k-15)) (yb (zS bs k) (k-2)) (yb (zS bs k) (k-7)) (yb (zS bs k) (k-16))))=yX (zS bs (k+1)):=by
 rw[vY,zS,if_neg (by omega)]
def qu (h s:List Int):Nat→List Int
 | 0=>h
 | k+1=>(qu h s k).set k (IntKind.u32.wrap (yb (qu h s k) k+yb s k))
theorem tq (h s:List Int):∀ k,(qu h s k).length=h.length
 | 0=>rfl
 | k+1=>by simp[qu,tq h s k]
def wA (K:List Int) (h:S8) (bs:List UInt8):S8 :=
 let s:=yI K (zS bs 64) h 64
 ⟨IntKind.u32.wrap (h.a+s.a),IntKind.u32.wrap (h.b+s.b),IntKind.u32.wrap (h.c+s.c),IntKind.u32.wrap (h.d+s.d),IntKind.u32.wrap (h.e+s.e),IntKind.u32.wrap (h.f+s.f),IntKind.u32.wrap (h.g+s.g),IntKind.u32.wrap (h.h+s.h)⟩
theorem sJ:(Tryz.prog.info? 127).map (·.size)=some 8:=by kernel_rfl
theorem xC:(Tryz.prog.info? 112).map (·.size)=some 1:=by kernel_rfl
theorem xg {H:Snap}{b off c:Nat}{bs:List UInt8}(hb:IsBytes H (some ⟨b,off,none⟩) c bs) (i:Nat) (hi:i<bs.length):H.cell? ⟨b,off+i,none⟩=some (.int .u8 (xz bs i)):=by
 obtain⟨b',off',e,h⟩:=hb.at_ (by omega)
 cases e
 rw[h i hi]
 simp[xz,hi]
theorem la {H:Snap}{b off c:Nat}{bs:List UInt8}(hb:IsBytes H (some ⟨b,off,none⟩) c bs) (hl:bs.length=64) {hg kg:Nat}{h0:S8}{KK:List Int}(w:World) (hH:Holds w H)
  (hh:Blk w hg 127 h0.cells) (hKb:Blk w kg 126 (yX KK)) (hK64:KK.length=64) :
  Calls Tryz.prog 78 #[.pointer (some ⟨hg,0,none⟩),.pointer (some ⟨kg,0,none⟩),.slice (some ⟨b,off,none⟩) 64 c] w fun e w'=>(∃ v,e=.returned v)∧Blk w' hg 127 (wA KK h0 bs).cells∧w.grownBy w' (some hg):=by
 have HN:=Hh (Blk.new w 126 (yX (zS bs 0)));have HB:=Hh hb;have HL:=Hh hl;have HH:=Hh hH;have Uj:=Hh hK64;clear hb hl hH hK64;go_enter Tryz.func78,Tryz.ntmps78
 go_wp2_with fail
 go_loopw [17] (fun v17 wr=>∃ k:Nat,v17=.int .i64 (k:Int)∧k≤64∧Blk wr w.heap.size 126 (yX (zS bs k))∧Below w.heap.size w wr) (fun v17 _=>(64-intOf v17).toNat)
 case atStart=>exact⟨0,rfl,by omega,HN.out,zb _ _⟩
 case round =>
 obtain⟨k,rfl,kD,hW,tQ⟩:=hrel
 by_cases z6:(k:Int)<64
 ·by_cases V6:(k:Int)<16
  ·obtain⟨j0,iA⟩:∃ j,4*k=j:=⟨_,rfl⟩
   obtain⟨j1,cM⟩:∃ j,4*k+1=j:=⟨_,rfl⟩
   obtain⟨j2,aH⟩:∃ j,4*k+2=j:=⟨_,rfl⟩
   obtain⟨j3,fH⟩:∃ j,4*k+3=j:=⟨_,rfl⟩
   have W0:IntKind.i64.wrap (4*(k:Int))=(j0:Int):=by rw[← iA];exact IntWalk.i64_in _ (by omega)
   have W1:IntKind.i64.wrap ((j0:Int)+1)=(j1:Int):=by rw[← cM,← iA];exact IntWalk.i64_in _ (by omega)
   have W2:IntKind.i64.wrap ((j0:Int)+2)=(j2:Int):=by rw[← aH,← iA];exact IntWalk.i64_in _ (by omega)
   have W3:IntKind.i64.wrap ((j0:Int)+3)=(j3:Int):=by rw[← fH,← iA];exact IntWalk.i64_in _ (by omega)
   have l0:(j0:Int)<64:=by omega
   have l1:(j1:Int)<64:=by omega
   have l2:(j2:Int)<64:=by omega
   have l3:(j3:Int)<64:=by omega
   have b0:=xg HB.out j0 (by have:=HL.out;omega);have b1:=xg HB.out j1 (by have:=HL.out;omega);have b2:=xg HB.out j2 (by have:=HL.out;omega);have b3:=xg HB.out j3 (by have:=HL.out;omega);have HJ:=Hh (And.intro iA (And.intro cM (And.intro aH fH)));clear iA cM aH fH;have br:=Hh (HH.out.below tQ (Nat.le_refl _));have nl:=hW.drew;go_upto_region 5 with fail
   refine zp 35 (fun wx=>wx.cell? ⟨b,off+j0,none⟩=some (.int .u8 (xz bs j0))∧wx.cell? ⟨b,off+j1,none⟩=some (.int .u8 (xz bs j1))∧wx.cell? ⟨b,off+j2,none⟩=some (.int .u8 (xz bs j2))∧wx.cell? ⟨b,off+j3,none⟩=some (.int .u8 (xz bs j3))) (by kernel_rfl) (⟨br.out.drew.cell b0,br.out.drew.cell b1,br.out.drew.cell b2,br.out.drew.cell b3⟩) (fun zy=>?_)
   refine Tk 0 rfl zy ?_
   refine Tk 1 rfl zy ?_
   refine Tk 2 rfl zy ?_
   refine Tk 3 rfl zy ?_
   refine Tk 4 rfl zy ?_
   refine Tk 5 rfl zy ?_
   refine Tk 6 rfl zy ?_
   refine Tk 7 rfl zy ?_
   refine Tk 8 rfl zy ?_
   refine Tk 9 rfl zy ?_
   refine Tk 10 rfl zy ?_
   refine Tk 11 rfl zy ?_
   refine Tk 12 rfl zy ?_
   refine Tk 13 rfl zy ?_
   refine Tk 14 rfl zy ?_
   refine Tk 15 rfl zy ?_
   refine Tk 16 rfl zy ?_
   refine Tk 17 rfl zy ?_
   refine Tk 18 rfl zy ?_
   refine Tk 19 rfl zy ?_
   refine Tk 20 rfl zy ?_
   refine Tk 21 rfl zy ?_
   refine Tk 22 rfl zy ?_
   refine Tk 23 rfl zy ?_
   refine Tk 24 rfl zy ?_
   refine Tk 25 rfl zy ?_
   refine Tk 26 rfl zy ?_
   refine Tk 27 rfl zy ?_
   refine Tk 28 rfl zy ?_
   refine Tk 29 rfl zy ?_
   refine Tk 30 rfl zy ?_
   refine Tk 31 rfl zy ?_
   refine Tk 32 rfl zy ?_
   refine Tk 33 rfl zy ?_
   refine Tk 34 rfl zy ?_
   refine To 35 rfl fun K hK=>?_
   rw[if_pos (by rfl)]
   refine zZ _ _ _ rfl w.heap.size k (.int .u32 (ij (xz bs j0) (xz bs j1) (xz bs j2) (xz bs j3))) rfl rfl _ _ nl xC (by rw[xc,z9];omega) rfl fun w9 hW9 hg9=>?_
   refine Kz hK ?_
   clear hK K
   refine Wd ?_
   clear zy;have cv:Below w.heap.size w w9:=tQ.drew.grown hg9 tQ.size (by rintro q ⟨⟩;exact Nat.le_refl _)
   have aA:Blk w9 w.heap.size 126 (yX (zS bs (k+1))):=by
    obtain⟨rfl,rfl,rfl,rfl⟩:=HJ.out;rw[oP _ _ (by omega)]at hW9
    exact hW9
   clear hW9 hg9 nl;go_wp2_with fail
   go_roundw
   case rel=>exact⟨k+1,by go_num,by omega,aA,cv⟩
   case measure=>simp[intOf];omega
  have Ud:16≤k:=by omega
  obtain⟨a15,k7⟩:∃ j,k-15=j:=⟨_,rfl⟩
  obtain⟨a2,qc⟩:∃ j,k-2=j:=⟨_,rfl⟩
  obtain⟨a7,aE⟩:∃ j,k-7=j:=⟨_,rfl⟩
  obtain⟨a16,k8⟩:∃ j,k-16=j:=⟨_,rfl⟩
  have W15:IntKind.i64.wrap ((k:Int)-15)=(a15:Int):=by rw[← k7,show((k-15:Nat):Int)=(k:Int)-15 by omega];exact IntWalk.i64_in _ (by omega)
  have W2:IntKind.i64.wrap ((k:Int)-2)=(a2:Int):=by rw[← qc,show((k-2:Nat):Int)=(k:Int)-2 by omega];exact IntWalk.i64_in _ (by omega)
  have W7:IntKind.i64.wrap ((k:Int)-7)=(a7:Int):=by rw[← aE,show((k-7:Nat):Int)=(k:Int)-7 by omega];exact IntWalk.i64_in _ (by omega)
  have W16:IntKind.i64.wrap ((k:Int)-16)=(a16:Int):=by rw[← k8,show((k-16:Nat):Int)=(k:Int)-16 by omega];exact IntWalk.i64_in _ (by omega)
  have l15:(a15:Int)<64:=by omega
  have l2:(a2:Int)<64:=by omega
  have l7:(a7:Int)<64:=by omega
  have l16:(a16:Int)<64:=by omega
  have nl:=hW.drew;have b15:=nl.cell a15 (yQ _ _ (by rw[z9];omega));have b2:=nl.cell a2 (yQ _ _ (by rw[z9];omega));have b7:=nl.cell a7 (yQ _ _ (by rw[z9];omega));have b16:=nl.cell a16 (yQ _ _ (by rw[z9];omega));have HJ:=Hh (And.intro k7 (And.intro qc (And.intro aE k8)));obtain⟨x15,kM⟩:∃ x,yb (zS bs k) a15=x:=⟨_,rfl⟩
  obtain⟨x2,o2⟩:∃ x,yb (zS bs k) a2=x:=⟨_,rfl⟩
  obtain⟨x7,aU⟩:∃ x,yb (zS bs k) a7=x:=⟨_,rfl⟩
  obtain⟨x16,kN⟩:∃ x,yb (zS bs k) a16=x:=⟨_,rfl⟩
  rw[kM]at b15;rw[o2]at b2;rw[aU]at b7;rw[kN]at b16;have HX:=Hh (And.intro kM (And.intro o2 (And.intro aU kN)));clear k7 qc aE k8 kM o2 aU kN;go_upto_region 6 with fail
  refine zp 10 (fun wx=>wx.cell? ⟨w.heap.size,a15,none⟩=some (.int .u32 x15)∧wx.cell? ⟨w.heap.size,a2,none⟩=some (.int .u32 x2)) (by kernel_rfl) (⟨b15,b2⟩) (fun zy=>?_)
  refine TkS 0 rfl zy ?_
  refine TkS 1 rfl zy ?_
  refine TkS 2 rfl zy ?_
  refine TkS 3 rfl zy ?_
  refine TkS 4 rfl zy ?_
  refine TkS 5 rfl zy ?_
  refine TkS 6 rfl zy ?_
  refine TkS 7 rfl zy ?_
  refine TkS 8 rfl zy ?_
  refine TkS 9 rfl zy ?_
  refine Wd ?_
  clear zy;go_upto_region 7 with fail
  refine zp 29 (fun wx=>wx.cell? ⟨w.heap.size,a7,none⟩=some (.int .u32 x7)∧wx.cell? ⟨w.heap.size,a16,none⟩=some (.int .u32 x16)) (by kernel_rfl) (⟨b7,b16⟩) (fun zy=>?_)
  refine Tk 0 rfl zy ?_
  refine Tk 1 rfl zy ?_
  refine Tk 3 rfl zy ?_
  refine Tk 6 rfl zy ?_
  refine Tk 7 rfl zy ?_
  refine Tk 9 rfl zy ?_
  refine Tk 10 rfl zy ?_
  refine Tk 11 rfl zy ?_
  refine Tk 12 rfl zy ?_
  refine Tk 14 rfl zy ?_
  refine Tk 16 rfl zy ?_
  refine Tk 19 rfl zy ?_
  refine Tk 20 rfl zy ?_
  refine Tk 23 rfl zy ?_
  refine Tk 24 rfl zy ?_
  refine Tk 25 rfl zy ?_
  refine Tk 26 rfl zy ?_
  refine To 2 rfl fun K hK=>?_
  go_simp
  refine(gY _ _).mono ?_
  rintro e w5 ⟨rfl,rfl⟩
  clear zy
  refine hK.out _ _ (fun _=>?_) (fun zy=>?_)
  ·exact⟨b7,b16⟩
  clear hK K;replace zy:=zy (by decide)
  try simp only[Act.put,zz1,zz2,zz3,zz4,zz5,zz6]
  refine To 4 rfl fun K hK=>?_
  go_simp
  refine(ga _ _).mono ?_
  rintro e w5 ⟨rfl,rfl⟩
  clear zy
  refine hK.out _ _ (fun _=>?_) (fun zy=>?_)
  ·exact⟨b7,b16⟩
  clear hK K;replace zy:=zy (by decide)
  try simp only[Act.put,zz1,zz2,zz3,zz4,zz5,zz6]
  refine Tk 5 rfl zy ?_
  refine Tk 8 rfl zy ?_
  refine Tk 13 rfl zy ?_
  refine To 15 rfl fun K hK=>?_
  go_simp
  refine(dm _ _).mono ?_
  rintro e w5 ⟨rfl,rfl⟩
  clear zy
  refine hK.out _ _ (fun _=>?_) (fun zy=>?_)
  ·exact⟨b7,b16⟩
  clear hK K;replace zy:=zy (by decide)
  try simp only[Act.put,zz1,zz2,zz3,zz4,zz5,zz6]
  refine To 17 rfl fun K hK=>?_
  go_simp
  refine(gZ _ _).mono ?_
  rintro e w5 ⟨rfl,rfl⟩
  clear zy
  refine hK.out _ _ (fun _=>?_) (fun zy=>?_)
  ·exact⟨b7,b16⟩
  clear hK K;replace zy:=zy (by decide)
  try simp only[Act.put,zz1,zz2,zz3,zz4,zz5,zz6]
  refine Tk 18 rfl zy ?_
  refine Tk 21 rfl zy ?_
  refine Tk 22 rfl zy ?_
  refine Tk 27 rfl zy ?_
  refine Tk 28 rfl zy ?_
  refine To 29 rfl fun K hK=>?_
  rw[if_pos (by rfl)]
  refine zZ _ _ _ rfl w.heap.size k (.int .u32 (bm x15 x2 x7 x16)) rfl rfl _ _ nl xC (by rw[xc,z9];omega) rfl fun w9 hW9 hg9=>?_
  refine Kz hK ?_
  clear hK K
  refine Wd ?_
  clear zy;have cv:Below w.heap.size w w9:=tQ.drew.drew.grown hg9 tQ.size (by rintro q ⟨⟩;exact Nat.le_refl _)
  have aA:Blk w9 w.heap.size 126 (yX (zS bs (k+1))):=by
   obtain⟨rfl,rfl,rfl,rfl⟩:=HJ.out;obtain⟨rfl,rfl,rfl,rfl⟩:=HX.out;rw[oO _ _ (by omega)]at hW9
   exact hW9
  clear hW9 hg9 nl;go_wp2_with fail
  go_roundw
  case rel=>exact⟨k+1,by go_num,by omega,aA,cv⟩
  case measure=>simp[intOf];omega
 obtain rfl:k=64:=by omega
 rw[show((64:Nat):Int)=64 from rfl]at z6⊢;have rg:=hh.below tQ;have VI:=hKb.below tQ;have d0:wr.cell? ⟨hg,0,none⟩=some (.int .u32 h0.a):=rg.cell 0 rfl;have d1:wr.cell? ⟨hg,1,none⟩=some (.int .u32 h0.b):=rg.cell 1 rfl;have d2:wr.cell? ⟨hg,2,none⟩=some (.int .u32 h0.c):=rg.cell 2 rfl;have d3:wr.cell? ⟨hg,3,none⟩=some (.int .u32 h0.d):=rg.cell 3 rfl;have d4:wr.cell? ⟨hg,4,none⟩=some (.int .u32 h0.e):=rg.cell 4 rfl;have d5:wr.cell? ⟨hg,5,none⟩=some (.int .u32 h0.f):=rg.cell 5 rfl;have d6:wr.cell? ⟨hg,6,none⟩=some (.int .u32 h0.g):=rg.cell 6 rfl;have d7:wr.cell? ⟨hg,7,none⟩=some (.int .u32 h0.h):=rg.cell 7 rfl;have HZ:=Hh tQ.size;have Up:Hid (hg<w.heap.size∧kg<w.heap.size):=⟨hh.lt,hKb.lt⟩
 obtain⟨G,hG⟩:∃ G,wr.heap.size=G:=⟨_,rfl⟩
 have sS:=Hh (Blk.new wr 127 h0.cells);rw[hG]at sS;have sU:=hW.alloc (.cells h0.cells 127);have zO:=tQ.alloc tQ.size (.cells h0.cells 127);have HG:=Hh hG;have XX:Hid (w.heap.size<G):=by have:=hW.lt;rw[Hid];omega
 clear HN z6 kD rg hG;go_wp2_with fail
 rw[HG.out];go_loopw [98] (fun v98 wx=>∃ k:Nat,v98=.int .i64 (k:Int)∧k≤64∧Blk wx G 127 (yI KK (zS bs 64) h0 k).cells∧Blk wx w.heap.size 126 (yX (zS bs 64))∧Below w.heap.size w wx) (fun v98 _=>(64-intOf v98).toNat)
 case atStart=>exact⟨0,rfl,by omega,sS.out,sU,zO⟩
 case round =>
 clear sU zO sS d0 d1 d2 d3 d4 d5 d6 d7 hW VI;obtain⟨k,rfl,kD,hS,cF,nu⟩:=hrel
 by_cases z6:(k:Int)<64
 ·obtain⟨s,hs⟩:∃ s,yI KK (zS bs 64) h0 k=s:=⟨_,rfl⟩
  rw[hs]at hS;have Zt:=Hh hs;clear hs;have c0:wr.cell? ⟨G,0,none⟩=some (.int .u32 s.a):=hS.cell 0 rfl;have c1:wr.cell? ⟨G,1,none⟩=some (.int .u32 s.b):=hS.cell 1 rfl;have c2:wr.cell? ⟨G,2,none⟩=some (.int .u32 s.c):=hS.cell 2 rfl;have c3:wr.cell? ⟨G,3,none⟩=some (.int .u32 s.d):=hS.cell 3 rfl;have c4:wr.cell? ⟨G,4,none⟩=some (.int .u32 s.e):=hS.cell 4 rfl;have c5:wr.cell? ⟨G,5,none⟩=some (.int .u32 s.f):=hS.cell 5 rfl;have c6:wr.cell? ⟨G,6,none⟩=some (.int .u32 s.g):=hS.cell 6 rfl;have c7:wr.cell? ⟨G,7,none⟩=some (.int .u32 s.h):=hS.cell 7 rfl;have ck:=(hKb.below nu).cell k (yQ _ _ (by have:=Uj.out;omega));have cw:=cF.cell k (yQ _ _ (by rw[z9];omega));obtain⟨xk,dD⟩:∃ x,yb KK k=x:=⟨_,rfl⟩
  obtain⟨xw,n7⟩:∃ x,yb (zS bs 64) k=x:=⟨_,rfl⟩
  rw[dD]at ck;rw[n7]at cw;have HX:=Hh (And.intro dD n7);clear dD n7;go_upto_region 13 with fail
  refine zp 6 (fun wx=>wx.cell? ⟨G,0,none⟩=some (.int .u32 s.a)∧wx.cell? ⟨G,4,none⟩=some (.int .u32 s.e)) (by kernel_rfl) (⟨c0,c4⟩) (fun zy=>?_)
  refine TkS 0 rfl zy ?_
  refine TkS 1 rfl zy ?_
  refine TkS 2 rfl zy ?_
  refine TkS 3 rfl zy ?_
  refine TkS 4 rfl zy ?_
  refine TkS 5 rfl zy ?_
  refine Wd ?_
  clear zy;go_upto_region 14 with fail
  refine zp 33 (fun wx=>wx.cell? ⟨G,7,none⟩=some (.int .u32 s.h)∧wx.cell? ⟨G,5,none⟩=some (.int .u32 s.f)∧wx.cell? ⟨G,6,none⟩=some (.int .u32 s.g)∧wx.cell? ⟨kg,k,none⟩=some (.int .u32 xk)∧wx.cell? ⟨w.heap.size,k,none⟩=some (.int .u32 xw)) (by kernel_rfl) (⟨c7,c5,c6,ck,cw⟩) (fun zy=>?_)
  refine TkS 0 rfl zy ?_
  refine TkS 1 rfl zy ?_
  refine TkS 2 rfl zy ?_
  refine TkS 4 rfl zy ?_
  refine TkS 7 rfl zy ?_
  refine TkS 11 rfl zy ?_
  refine TkS 12 rfl zy ?_
  refine TkS 13 rfl zy ?_
  refine TkS 14 rfl zy ?_
  refine TkS 15 rfl zy ?_
  refine TkS 16 rfl zy ?_
  refine TkS 17 rfl zy ?_
  refine TkS 18 rfl zy ?_
  refine TkS 19 rfl zy ?_
  refine TkS 20 rfl zy ?_
  refine TkS 22 rfl zy ?_
  refine TkS 23 rfl zy ?_
  refine TkS 24 rfl zy ?_
  refine TkS 25 rfl zy ?_
  refine TkS 26 rfl zy ?_
  refine TkS 28 rfl zy ?_
  refine TkS 29 rfl zy ?_
  refine TkS 30 rfl zy ?_
  refine To 3 rfl fun K hK=>?_
  go_simp
  refine(dl _ _).mono ?_
  rintro e w5 ⟨rfl,rfl⟩
  clear zy
  refine hK.out _ _ (fun _=>?_) (fun zy=>?_)
  ·exact⟨c7,c5,c6,ck,cw⟩
  clear hK K;replace zy:=zy (by decide)
  try simp only[Act.put,zz1,zz2,zz3,zz4,zz5,zz6]
  refine To 5 rfl fun K hK=>?_
  go_simp
  refine(gW _ _).mono ?_
  rintro e w5 ⟨rfl,rfl⟩
  clear zy
  refine hK.out _ _ (fun _=>?_) (fun zy=>?_)
  ·exact⟨c7,c5,c6,ck,cw⟩
  clear hK K;replace zy:=zy (by decide)
  try simp only[Act.put,zz1,zz2,zz3,zz4,zz5,zz6]
  refine TkS 6 rfl zy ?_
  refine To 8 rfl fun K hK=>?_
  go_simp
  refine(gf _ _).mono ?_
  rintro e w5 ⟨rfl,rfl⟩
  clear zy
  refine hK.out _ _ (fun _=>?_) (fun zy=>?_)
  ·exact⟨c7,c5,c6,ck,cw⟩
  clear hK K;replace zy:=zy (by decide)
  try simp only[Act.put,zz1,zz2,zz3,zz4,zz5,zz6]
  refine TkS 9 rfl zy ?_
  refine TkS 10 rfl zy ?_
  refine TkS 21 rfl zy ?_
  refine TkS 27 rfl zy ?_
  refine TkS 31 rfl zy ?_
  refine TkS 32 rfl zy ?_
  refine Wd ?_
  clear zy;go_upto_region 15 with fail
  refine zp 25 (fun wx=>wx.cell? ⟨G,1,none⟩=some (.int .u32 s.b)∧wx.cell? ⟨G,2,none⟩=some (.int .u32 s.c)) (by kernel_rfl) (⟨c1,c2⟩) (fun zy=>?_)
  refine TkS 0 rfl zy ?_
  refine TkS 2 rfl zy ?_
  refine TkS 5 rfl zy ?_
  refine TkS 8 rfl zy ?_
  refine TkS 9 rfl zy ?_
  refine TkS 10 rfl zy ?_
  refine TkS 11 rfl zy ?_
  refine TkS 12 rfl zy ?_
  refine TkS 13 rfl zy ?_
  refine TkS 14 rfl zy ?_
  refine TkS 15 rfl zy ?_
  refine TkS 16 rfl zy ?_
  refine TkS 17 rfl zy ?_
  refine TkS 18 rfl zy ?_
  refine TkS 19 rfl zy ?_
  refine TkS 20 rfl zy ?_
  refine TkS 21 rfl zy ?_
  refine TkS 22 rfl zy ?_
  refine To 1 rfl fun K hK=>?_
  go_simp
  refine(dk _ _).mono ?_
  rintro e w5 ⟨rfl,rfl⟩
  clear zy
  refine hK.out _ _ (fun _=>?_) (fun zy=>?_)
  ·exact⟨c1,c2⟩
  clear hK K;replace zy:=zy (by decide)
  try simp only[Act.put,zz1,zz2,zz3,zz4,zz5,zz6]
  refine To 3 rfl fun K hK=>?_
  go_simp
  refine(gX _ _).mono ?_
  rintro e w5 ⟨rfl,rfl⟩
  clear zy
  refine hK.out _ _ (fun _=>?_) (fun zy=>?_)
  ·exact⟨c1,c2⟩
  clear hK K;replace zy:=zy (by decide)
  try simp only[Act.put,zz1,zz2,zz3,zz4,zz5,zz6]
  refine TkS 4 rfl zy ?_
  refine To 6 rfl fun K hK=>?_
  go_simp
  refine(gc _ _).mono ?_
  rintro e w5 ⟨rfl,rfl⟩
  clear zy
  refine hK.out _ _ (fun _=>?_) (fun zy=>?_)
  ·exact⟨c1,c2⟩
  clear hK K;replace zy:=zy (by decide)
  try simp only[Act.put,zz1,zz2,zz3,zz4,zz5,zz6]
  refine TkS 7 rfl zy ?_
  refine TkS 23 rfl zy ?_
  refine TkS 24 rfl zy ?_
  refine Wd ?_
  clear zy;go_wp2_with (with_reducible refine zx ?_)
  refine zr rfl _ _ _ rfl rfl G (jr s xk xw).cells rfl rfl _ _ hS sJ rfl (S8.one _) fun w9 hS9 hg9=>?_
  have jx:Blk w9 G 127 (yI KK (zS bs 64) h0 (k+1)).cells:=by
   rw[yI,Zt.out,HX.out.1,HX.out.2]
   exact hS9
  have Xp:w.heap.size<G:=XX.out;have ZW:=cF.drew.drew.drew.grown hg9 (by intro hc;injection hc;omega);have t6:=nu.drew.drew.drew.grown hg9 nu.size (by rintro q ⟨⟩;omega);clear hS9 hg9 hS cF c0 c1 c2 c3 c4 c5 c6 c7 ck cw nu Xp;go_wp2_with fail
  go_roundw
  case rel=>exact⟨k+1,by go_num,by omega,jx,ZW,t6⟩
  case measure=>simp[intOf];omega
 obtain rfl:k=64:=by omega
 rw[show((64:Nat):Int)=64 from rfl]at z6⊢;obtain⟨s,hs⟩:∃ s,yI KK (zS bs 64) h0 64=s:=⟨_,rfl⟩
 rw[hs]at hS;have Zt:=Hh hs;have am:=hh.below nu;have Xp:w.heap.size<G:=XX.out;have Sj:hg<w.heap.size:=Up.out.1;clear hs z6 kD hKb cF;go_wp2_with fail
 go_loopw [180] (fun v180 wx=>∃ k:Nat,v180=.int .i64 (k:Int)∧k≤8∧Blk wx hg 127 (yX (qu h0.list s.list k))∧Blk wx G 127 (yX s.list)∧w.grownBy wx (some hg)) (fun v180 _=>(8-intOf v180).toNat)
 case atStart=>exact⟨0,rfl,by omega,am,hS,yD nu _⟩
 case round =>
 clear am hS nu;obtain⟨k,rfl,Y7,mz,Zy,cL⟩:=hrel
 by_cases z6:(k:Int)<8
 ·have ch:=mz.drew.cell k (yQ _ _ (by rw[tq];simp[S8.list];omega));have cs:=Zy.drew.cell k (yQ _ _ (by simp[S8.list];omega));obtain⟨xh,aV⟩:∃ x,yb (qu h0.list s.list k) k=x:=⟨_,rfl⟩
  obtain⟨xs,iF⟩:∃ x,yb s.list k=x:=⟨_,rfl⟩
  rw[aV]at ch;rw[iF]at cs;have HX:=Hh (And.intro aV iF);clear aV iF;go_upto_region 21 with fail
  refine zp 11 (fun wx=>wx.cell? ⟨hg,k,none⟩=some (.int .u32 xh)∧wx.cell? ⟨G,k,none⟩=some (.int .u32 xs)) (by kernel_rfl) (⟨ch,cs⟩) (fun zy=>?_)
  refine Tk 0 rfl zy ?_
  refine Tk 1 rfl zy ?_
  refine Tk 2 rfl zy ?_
  refine Tk 3 rfl zy ?_
  refine Tk 4 rfl zy ?_
  refine Tk 5 rfl zy ?_
  refine Tk 6 rfl zy ?_
  refine Tk 7 rfl zy ?_
  refine Tk 8 rfl zy ?_
  refine Tk 9 rfl zy ?_
  refine Tk 10 rfl zy ?_
  refine To 11 rfl fun K hK=>?_
  rw[if_pos (by rfl)]
  refine zZ _ _ _ rfl hg k (.int .u32 (IntKind.u32.wrap (xh+xs))) rfl rfl _ _ mz.drew xC (by rw[xc,tq];simp[S8.list];omega) rfl fun w9 hh9 hg9=>?_
  refine Kz hK ?_
  clear hK K
  refine Wd ?_
  clear zy
  have Zf:Blk w9 hg 127 (yX (qu h0.list s.list (k+1))):=by
   obtain⟨rfl,rfl⟩:=HX.out;rw[vY]at hh9
   exact hh9
  have jx:=Zy.drew.grown hg9 (by intro hc;injection hc;omega);have mX:=z8 (wi cL) hg9 (.inl rfl);clear hh9 hg9 ch cs mz Zy cL;go_wp2_with fail
  go_roundw
  case rel=>exact⟨k+1,by go_num,by omega,Zf,jx,mX⟩
  case measure=>simp[intOf];omega
 obtain rfl:k=8:=by omega
 rw[show((8:Nat):Int)=8 from rfl]at z6⊢;have hE:yX (qu h0.list s.list 8)=(wA KK h0 bs).cells:=by rw[wA,Zt.out];rfl
 rw[hE]at mz;clear hE;go_wp2_with fail
 go_end0
 exact⟨⟨_,rfl⟩,mz,cL⟩
end Go.Proofs.YtnfoilblmhbobaaGreatDoor
