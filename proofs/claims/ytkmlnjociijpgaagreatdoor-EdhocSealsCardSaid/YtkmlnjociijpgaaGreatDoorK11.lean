/- squeezed. An array by value, its element. Nu -/
import Derived.ChangeKeysEq
import Derived.Test.YtkmlnjociijpgaaGreatDoorK01
import Derived.KernelRfl
import Derived.Deep.Cut
set_option linter.unusedVariables false
set_option linter.unusedSimpArgs false
set_option maxRecDepth 100000
set_option maxHeartbeats 3200000
namespace Go.Proofs.YtkmlnjociijpgaaGreatDoor
open Go.RowKit
theorem jak{P:Prop}(h:P:=by
 go_wp2_with fail
 refine R.out.mono ?_
 rintro e w1 ⟨rfl,rfl⟩
 go_wp2_with fail
 go_ret
 exact⟨rfl,rfl⟩):P:=h
theorem jaT{P:Prop}(h:P:=by
 rw[if_pos (by rfl)]
 refine zO _ _ _ rfl hg k (.int .u32 (IntKind.u32.wrap (xh+xs))) rfl rfl _ _ am.drew t9 (by rw[uL,nv];simp[S8.list];omega) rfl fun w9 hh9 xt=>?_
 refine Kz hK ?_
 clear hK K
 refine Wd ?_
 clear zy
 have LR:Blk w9 hg 247 (we (iz h0.list s.list (k+1))):=by
  obtain⟨rfl,rfl⟩:=HX.out;rw[rB]at hh9
  exact hh9
 have j4:=ad.drew.grown xt (by intro hc;injection hc;omega);have yn:=zG (sR Sp) xt (.inl rfl);clear hh9 xt ch cs am ad Sp;go_wp2_with fail
 go_roundw
 case rel=>exact⟨k+1,by go_num,by omega,LR,j4,yn⟩
 case measure=>simp[intOf];omega):P:=h
theorem ja3{P:Prop}(h:P:=by
 have mN:=h.le;have wP:=h.max
 refine⟨by rw[List.length_drop];omega,by omega,fun xp=>?_⟩
 have uh:k<l.length:=by
  rcases Nat.lt_or_ge k l.length with h1 | h1
  ·exact h1
  rw[List.drop_eq_nil_of_le h1]at xp;exact absurd rfl xp
 obtain⟨b,off,rfl,hc⟩:=h.row (by intro h0;rw[List.map_eq_nil_iff]at h0;subst h0;simp at uh);rw[if_neg (by omega)]
 refine⟨b,off+k,by rw[Option.map_some,td],fun j v hj=>?_⟩
 rw[List.map_drop,List.getElem?_drop]at hj;have:=hc (k+j) v hj;rwa [← Nat.add_assoc]at this):P:=h
theorem jbe{P:Prop}(h:P:=by
 clear hW9 xt cR;go_wp2_with fail
 go_roundw
 case rel=>exact⟨k+1,by go_num,by omega,Lw,YY⟩
 case measure=>simp[intOf];omega):P:=h
theorem jbn{P:Prop}(h:P:=by
 have LG:=Om.drew.drew.drew.grown xt (by intro hc;injection hc;omega);have xN:=uv.drew.drew.drew.grown xt uv.size (by rintro q ⟨⟩;omega);clear PN xt hS Om c0 c1 c2 c3 c4 c5 c6 c7 ck cw uv aa;go_wp2_with fail
 go_roundw
 case rel=>exact⟨k+1,by go_num,by omega,j4,LG,xN⟩
 case measure=>simp[intOf];omega):P:=h
theorem jbD{P:Prop}(h:P:=by
 refine⟨by have:=h.le;rw[List.length_take];omega,h.max,fun xp=>?_⟩
 obtain⟨b,off,e,hc⟩:=h.row (by intro h0;rw[List.map_eq_nil_iff]at h0;subst h0;simp at xp)
 refine⟨b,off,e,fun j v hj=>hc j v ?_⟩
 rw[List.map_take,List.getElem?_take]at hj
 split at hj
 ·exact hj
 cases hj):P:=h
theorem jcE{P:Prop}(h:P:=by
 obtain⟨rfl,rfl,rfl,rfl⟩:=HJ.out;obtain⟨rfl,rfl,rfl,rfl⟩:=HX.out;rw[dm _ _ (by omega)]at hW9
 exact hW9):P:=h
theorem jcV{P:Prop}(h:P:=by exact⟨c7,c5,c6,ck,cw⟩):P:=h
theorem jdj{P:Prop}(h:P:=by
 obtain⟨rfl,rfl,rfl,rfl⟩:=HJ.out;rw[dn _ _ (by omega)]at hW9
 exact hW9):P:=h
theorem jdU{P:Prop}(h:P:=by
 go_enter Tryz.func247,Tryz.ntmps247
 exact jal):P:=h
theorem jdV{P:Prop}(h:P:=by
 go_enter Tryz.func229,Tryz.ntmps229
 exact jak):P:=h
theorem jdW{P:Prop}(h:P:=by
 go_enter Tryz.func231,Tryz.ntmps231
 exact jak):P:=h
theorem jfu{P:Prop}(h:P:=by have cY:=hh.below oL;have Db:=hKb.below oL;have d0:wr.cell? ⟨hg,0,none⟩=some (.int .u32 h0.a):=cY.cell 0 rfl;have d1:wr.cell? ⟨hg,1,none⟩=some (.int .u32 h0.b):=cY.cell 1 rfl;have d2:wr.cell? ⟨hg,2,none⟩=some (.int .u32 h0.c):=cY.cell 2 rfl;have d3:wr.cell? ⟨hg,3,none⟩=some (.int .u32 h0.d):=cY.cell 3 rfl;have d4:wr.cell? ⟨hg,4,none⟩=some (.int .u32 h0.e):=cY.cell 4 rfl;have d5:wr.cell? ⟨hg,5,none⟩=some (.int .u32 h0.f):=cY.cell 5 rfl;have d6:wr.cell? ⟨hg,6,none⟩=some (.int .u32 h0.g):=cY.cell 6 rfl;have d7:wr.cell? ⟨hg,7,none⟩=some (.int .u32 h0.h):=cY.cell 7 rfl;exact And.intro cY (And.intro Db (And.intro d0 (And.intro d1 (And.intro d2 (And.intro d3 (And.intro d4 (And.intro d5 (And.intro d6 d7))))))))):P:=h
theorem jfB{P:Prop}(h:P:=by have c0:wr.cell? ⟨G,0,none⟩=some (.int .u32 s.a):=hS.cell 0 rfl;have c1:wr.cell? ⟨G,1,none⟩=some (.int .u32 s.b):=hS.cell 1 rfl;have c2:wr.cell? ⟨G,2,none⟩=some (.int .u32 s.c):=hS.cell 2 rfl;have c3:wr.cell? ⟨G,3,none⟩=some (.int .u32 s.d):=hS.cell 3 rfl;have c4:wr.cell? ⟨G,4,none⟩=some (.int .u32 s.e):=hS.cell 4 rfl;have c5:wr.cell? ⟨G,5,none⟩=some (.int .u32 s.f):=hS.cell 5 rfl;have c6:wr.cell? ⟨G,6,none⟩=some (.int .u32 s.g):=hS.cell 6 rfl;have c7:wr.cell? ⟨G,7,none⟩=some (.int .u32 s.h):=hS.cell 7 rfl;exact And.intro c0 (And.intro c1 (And.intro c2 (And.intro c3 (And.intro c4 (And.intro c5 (And.intro c6 c7))))))):P:=h
theorem jgC{P:Prop}(h:P:=by have b15:=cR.cell a15 (wL _ _ (by rw[xg];omega));have b2:=cR.cell a2 (wL _ _ (by rw[xg];omega));have b7:=cR.cell a7 (wL _ _ (by rw[xg];omega));have b16:=cR.cell a16 (wL _ _ (by rw[xg];omega));have HJ:=Hh (And.intro Xw (And.intro jE (And.intro M5 Xx)));exact And.intro b15 (And.intro b2 (And.intro b7 (And.intro b16 HJ)))):P:=h
theorem jgE{P:Prop}(h:P:=by have b0:=uV HB.out j0 (by have:=HL.out;omega);have b1:=uV HB.out j1 (by have:=HL.out;omega);have b2:=uV HB.out j2 (by have:=HL.out;omega);have b3:=uV HB.out j3 (by have:=HL.out;omega);have HJ:=Hh (And.intro VN (And.intro fG (And.intro cd WV)));exact And.intro b0 (And.intro b1 (And.intro b2 (And.intro b3 HJ)))):P:=h
theorem jhL{P:Prop}(h:P:=by have ch:=am.drew.cell k (wL _ _ (by rw[nv];simp[S8.list];omega));have cs:=ad.drew.cell k (wL _ _ (by simp[S8.list];omega));exact And.intro ch cs):P:=h
theorem IsBytes.take' {H:Snap}{A:Option Addr}{c:Nat}{l:List UInt8}(h:IsBytes H A c l) (m:Nat):IsBytes H A c (l.take m):=by
 exact jbD
theorem IsBytes.drop' {H:Snap}{A:Option Addr}{c:Nat}{l:List UInt8}(h:IsBytes H A c l) (k:Nat) (hk:k≤l.length):IsBytes H (if c=k then A else Option.map (fun x=>x.add k) A) (c-k) (l.drop k):=by
 exact ja3
theorem qr {P:Program}(t e:TypeId) (n:Nat) (cs:Array Value) (k:IntKind) (j:Nat) (i:Int) (u:Value) (h:P.underlying t=some (.array n e)) (he:P.plainKey e=true) (i0:TypeInfo) (og:P.info? e=some i0) (h1:i0.size=1) (hi:i=(j:Int)) (hj:j<n) (hv:cs[j]? = some u) (w:World) :
  (Instr.index t (.agg cs) (.int k i)).run P w=.ok u w:=by
 subst hi;have hn:(0:Int)≤(j:Int)∧(j:Int)<(n:Int):=by omega
 have hp:=run_part_plain (P:=P) (w:=w) he hv
 have e1:(Instr.index t (.agg cs) (.int k (j:Int))).run P w=(part e cs j).run P w:=by
  simp[Instr.index,run_underlying h,asIntOf,hn,hj,sizeOf,typeInfo,og,h1,go_sem]
 rw[e1,hp]
theorem yP (w:World) (cs:Array Value) (j:Nat) (u:Value) (i:Int) (hi:i=(j:Int)) (hj:j<8) (hv:cs[j]? = some u) :
  (Instr.index 247 (.agg cs) (.int .i64 i)).run Tryz.prog w=.ok u w:=by
 obtain⟨i0,og,n9,rx,oN⟩:=info_parts (show(Tryz.prog.info? 217).map (fun i=>(i.zero,i.size,i.bytes))=some (some (.int .u32 0),1,4) by kernel_rfl)
 exact qr _ _ 8 cs .i64 j i u Tryz.underlying247 (by kernel_rfl) i0 og rx hi hj hv w
theorem ZC (w:World) (cs:Array Value) (j:Nat) (u:Value) (i:Int) (hi:i=(j:Int)) (hj:j<8) (hv:cs[j]? = some u) :
  (Instr.index 243 (.agg cs) (.int .i64 i)).run Tryz.prog w=.ok u w:=by
 obtain⟨i0,og,n9,rx,oN⟩:=info_parts (show(Tryz.prog.info? 74).map (fun i=>(i.zero,i.size,i.bytes))=some (some (.int .u64 0),1,8) by kernel_rfl)
 exact qr _ _ 8 cs .i64 j i u Tryz.underlying243 (by kernel_rfl) i0 og rx hi hj hv w
end Go.Proofs.YtkmlnjociijpgaaGreatDoor
namespace Go.Proofs.YtkmlnjociijpgaaGreatDoor
def num:List Nat→Nat
 | []=>0
 | x::l=>x+18446744073709551616*num l
def W64 (l:List Nat):Prop:=∀ x∈l,x<18446744073709551616
def wM (x:Nat):List Nat→List Nat→Nat→List Nat
 | y::ys,z::zs,c=>(z+x*y+c)%18446744073709551616::wM x ys zs ((z+x*y+c)/18446744073709551616)
 | _,_,_=>[]
theorem fp (x:Nat):∀ (ys zs:List Nat) (c:Nat),zs.length≤ys.length→(wM x ys zs c).length=zs.length
 | _,[],_,_=>by simp[wM]
 | [],z::zs,_,h=>by simp at h
 | y::ys,z::zs,c,h=>by simp[wM,fp x ys zs _ (by simpa using h)]
theorem Zj (x:Nat):∀ (ys zs:List Nat) (c:Nat),W64 (wM x ys zs c)
 | _,[],_=>by simp[wM,W64]
 | [],z::zs,_=>by simp[wM,W64]
 | y::ys,z::zs,c=>by
  intro a ha
  simp only[wM,List.mem_cons]at ha
  rcases ha with rfl | ha
  ·exact Nat.mod_lt _ (by decide)
  exact Zj x ys zs _ a ha
theorem fr (x:Nat):∀ (ys zs:List Nat) (c:Nat),zs.length≤ys.length→
  num (wM x ys zs c)%18446744073709551616 ^ zs.length=(num zs+x*num ys+c)%18446744073709551616 ^ zs.length
 | _,[],_,_=>by simp[Nat.mod_one]
 | [],z::zs,_,h=>by simp at h
 | y::ys,z::zs,c,h=>by
  have ih:=fr x ys zs ((z+x*y+c)/18446744073709551616) (by simpa using h)
  simp only[wM,num,List.length_cons,Nat.pow_succ]
  generalize hD:(18446744073709551616:Nat)=D at *
  generalize hP:D ^ zs.length=P at *
  have JP:0<D:=by omega
  have e:z+D*num zs+x*(y+D*num ys)+c=(z+x*y+c)%D+D*(num zs+x*num ys+(z+x*y+c)/D):=by
   have:=Nat.mod_add_div (z+x*y+c) D;have e2:x*(y+D*num ys)=x*y+D*(x*num ys):=by rw[Nat.mul_add,Nat.mul_left_comm]
   rw[e2,Nat.mul_add,Nat.mul_add]
   omega
  rw[e,Nat.mul_comm P D,Nat.mod_mul,Nat.mod_mul];have z9:(z+x*y+c)%D<D:=Nat.mod_lt _ JP
  generalize (z+x*y+c)%D=r at *
  rw[Nat.add_mul_mod_self_left,Nat.add_mul_mod_self_left,Nat.mod_eq_of_lt z9,Nat.add_mul_div_left _ _ JP,Nat.add_mul_div_left _ _ JP,Nat.div_eq_of_lt z9,Nat.zero_add,Nat.zero_add,ih]
theorem Qu:∀ {l:List Nat},W64 l→num l<18446744073709551616 ^ l.length
 | [],_=>by simp[num]
 | x::l,h=>by
  have h1:x<18446744073709551616:=h x (by simp);have h2:=Qu (l:=l) (fun a ha=>h a (by simp[ha]))
  simp only[num,List.length_cons,Nat.pow_succ]
  generalize 18446744073709551616 ^ l.length=P at *
  omega
def xm:List Nat→List Nat→List Nat→List Nat
 | x::xs,ys,z::zs=>match wM x ys (z::zs) 0 with
  | a::r=>a::xm xs ys r
  | []=>[]
 | _,_,zs=>zs
theorem ko:∀ (xs ys zs:List Nat),xs.length=zs.length→zs.length≤ys.length→W64 zs→
  (xm xs ys zs).length=zs.length∧W64 (xm xs ys zs)∧num (xm xs ys zs)%18446744073709551616 ^ zs.length=(num zs+num xs*num ys)%18446744073709551616 ^ zs.length
 | [],_,[],_,_,_=>by simp[xm,W64,Nat.mod_one]
 | [],_,_::_,h,_,_=>by simp at h
 | _::_,_,[],h,_,_=>by simp at h
 | x::xs,ys,z::zs,hx,hy,hw=>by
  obtain⟨a,r,hr⟩:∃ a r,wM x ys (z::zs) 0=a::r:=by
   cases ys with
   | nil=>simp at hy
   | cons y ys=>exact⟨_,_,rfl⟩
  have hl:=fp x ys (z::zs) 0 hy;have hn:=fr x ys (z::zs) 0 hy;have MH:=Zj x ys (z::zs) 0;rw[hr]at hl hn MH;have Ee:r.length=zs.length:=by simpa using hl
  have ih:=ko xs ys r (by rw[Ee];simpa using hx) (by rw[Ee];simp at hy;omega) (fun b hb=>MH b (by simp[hb]));rw[Ee]at ih;have ha:a<18446744073709551616:=MH a (by simp)
  refine⟨by simp[xm,hr,ih.1], ?_, ?_⟩
  ·intro b hb
   simp only[xm,hr,List.mem_cons]at hb
   rcases hb with rfl | hb
   ·exact ha
   exact ih.2.1 b hb
  have e:=ih.2.2
  simp only[xm,hr,num,List.length_cons,Nat.pow_succ,Nat.add_zero]at hn⊢
  generalize hD:(18446744073709551616:Nat)=D at *
  generalize hP:D ^ zs.length=P at *
  have JP:0<D:=by omega
  rw[Nat.mul_comm P D]at hn⊢
  have e1:(a+D*num (xm xs ys r))%(D*P)=(a+D*(num r+num xs*num ys))%(D*P):=by
   rw[Nat.mod_mul,Nat.mod_mul,Nat.add_mul_mod_self_left,Nat.add_mul_mod_self_left,Nat.add_mul_div_left _ _ JP,Nat.add_mul_div_left _ _ JP,Nat.div_eq_of_lt ha,Nat.zero_add,Nat.zero_add,e]
  rw[e1,Nat.mul_add,← Nat.add_assoc,Nat.add_mod,hn,← Nat.add_mod,Nat.add_mul,Nat.mul_assoc D,Nat.add_assoc,Nat.add_assoc]
theorem gN {x y:List Nat}(hx:x.length=4) (hy:y.length=4) :
  (xm x y [0,0,0,0]).length=4∧W64 (xm x y [0,0,0,0])∧(num x*num y<18446744073709551616 ^ 4→num (xm x y [0,0,0,0])=num x*num y):=by
 have h:=ko x y [0,0,0,0] (by simp[hx]) (by simp[hy]) (by simp[W64])
 refine⟨by simpa using h.1,h.2.1,fun hb=>?_⟩
 have h2:=Qu h.2.1;have e:=h.2.2;have hz:num [0,0,0,0]=0:=by decide
 rw[h.1]at h2
 simp only[List.length_cons,List.length_nil,hz,Nat.zero_add,Nat.reduceAdd]at h2 e
 rwa [Nat.mod_eq_of_lt h2,Nat.mod_eq_of_lt hb]at e
theorem Z8 {n a b g:Nat}(hn:n≠0) (h1:a ^ n≤g) (h2:g<(a+1) ^ n) (h3:b ^ n≤g) (h4:g<(b+1) ^ n):a=b:=by
 rcases Nat.lt_trichotomy a b with h | h | h
 ·have:=Nat.pow_le_pow_left (show a+1≤b by omega) n
  omega
 ·exact h
 have:=Nat.pow_le_pow_left (show b+1≤a by omega) n
 omega
theorem Q1 {x y z c:Nat}(hx:x<18446744073709551616) (hy:y<18446744073709551616) (hz:z<18446744073709551616) (hc:c<18446744073709551616) :
  x*y/18446744073709551616+(x*y%18446744073709551616+c)/18446744073709551616<18446744073709551616∧
  x*y/18446744073709551616+(x*y%18446744073709551616+c)/18446744073709551616+(z+(x*y%18446744073709551616+c)%18446744073709551616)/18446744073709551616=(z+x*y+c)/18446744073709551616∧
  (z+(x*y%18446744073709551616+c)%18446744073709551616)%18446744073709551616=(z+x*y+c)%18446744073709551616∧(z+x*y+c)/18446744073709551616<18446744073709551616:=by
 have:=Nat.mul_le_mul (show x≤18446744073709551615 by omega) (show y≤18446744073709551615 by omega)
 generalize x*y=p at *
 omega
end Go.Proofs.YtkmlnjociijpgaaGreatDoor
namespace Go.Proofs.YtkmlnjociijpgaaGreatDoor
def vH:List Nat:=[2,3,5,7,11,13,17,19,23,29,31,37,41,43,47,53,59,61,67,71,73,79,83,89,97,101,103,107,109,113,127,131,137,139,149,151,157,163,167,173,179,181,191,193,197,199,211,223,227,229,233,239,241,251,257,263,269,271,277,281,283,293,307,311,313,317,331,337,347,349,353,359,367,373,379,383,389,397,401,409]
def rE:List Nat:=[4794697086780616226,8158064640168781261,13096744586834688815,16840607885511220156,4131703408338449720,6480981068601479193,10538285296894168987,12329834152419229976,15566598209576043074,1334009975649890238,2608012711638119052,6128411473006802146,8268148722764581231,9286055187155687089,11230858885718282805,13951009754708518548,16472876342353939154,17275323862435702243,1135362057144423861,2597628984639134821,3308224258029322869,5365058923640841347,6679025012923562964,8573033837759648693,10970295158949994411,12119686244451234320,12683024718118986047,13788192230050041572,14330467153632333762,15395433587784984357,489312712824947311,1452737877330783856,2861767655752347644,3322285676063803686,5560940570517711597,5996557281743188959,7280758554555802590,8532644243296465576,9350256976987008742,10552545826968843579,11727347734174303076,12113106623233404929,14000437183269869457,14369950271660146224,15101387698204529176,15463397548674623760,17586052441742319658,1182934255886127544,1847814050463011016,2177327727835720531,2830643537854262169,3796741975233480872,4115178125766777443,5681478168544905931,6601373596472566643,7507060721942968483,8399075790359081724,8693463985226723168,9568029438360202098,10144078919501101548,10430055236837252648,11840083180663258601,13761210420658862357,14299343276471374635,14566680578165727644,15097957966210449927,16922976911328602910,17689382322260857208,500013540394364858,748580250866718886,1242879168328830382,1977374033974150939,2944078676154940804,3659926193048069267,4368137639120453308,4836135668995329356,5532061633213252278,6448918945643986474,6902733635092675308,7801388544844847127]
def vJ:List Nat:=[7640891576956012808,13503953896175478587,4354685564936845355,11912009170470909681,5840696475078001361,11170449401992604703,2270897969802886507,6620516959819538809]
def o6 (n p c:Nat):Bool:=(List.range 21).any fun w=>decide ((w*18446744073709551616+c) ^ n≤p*18446744073709551616 ^ n)&&decide (p*18446744073709551616 ^ n<(w*18446744073709551616+c+1) ^ n)
end Go.Proofs.YtkmlnjociijpgaaGreatDoor
namespace Go.Proofs.YtkmlnjociijpgaaGreatDoor
def yD (l:List Nat) (i:Nat):Nat:=l.getD i 0
theorem bY {l:List Nat}(h:W64 l) (i:Nat):yD l i<18446744073709551616:=by
 unfold yD
 rcases Nat.lt_or_ge i l.length with h1 | h1
 ·rw[List.getD_eq_getElem?_getD,List.getElem?_eq_getElem h1]
  exact h _ (List.getElem_mem h1)
 rw[List.getD_eq_getElem?_getD,List.getElem?_eq_none h1];decide
theorem sV {l:List Nat}{i:Nat}(h:i<l.length):l.drop i=yD l i::l.drop (i+1):=by
 rw[List.drop_eq_getElem_cons h]
 simp[yD,h]
theorem W64.set {l:List Nat}(h:W64 l) (i:Nat) {n:Nat}(hn:n<18446744073709551616):W64 (l.set i n):=fun a ha=>by
 rcases List.mem_or_eq_of_mem_set ha with h1 | h1
 ·exact h a h1
 rw[h1];exact hn
theorem a9 {l:List Nat}{k u:Nat}(h:k<l.length):(l.set k u).take (k+1)=l.take k++[u]∧(l.set k u).drop (k+1)=l.drop (k+1):=by
 have e:l.set k u=l.take k++u::l.drop (k+1):=by rw[List.set_eq_take_append_cons_drop,if_pos h]
 have hl:(l.take k).length=k:=by rw[List.length_take];omega
 constructor
 ·rw[e,List.take_append,hl,List.take_of_length_le (by omega),Nat.add_sub_cancel_left];rfl
 rw[e,List.drop_append,hl,List.drop_of_length_le (by omega),Nat.add_sub_cancel_left];rfl
theorem ZI {zs ys:List Nat}{x c k j:Nat}(hk:k<zs.length) (hj:j<ys.length) :
  (zs.set k ((yD zs k+x*yD ys j+c)%18446744073709551616)).take (k+1)++wM x (ys.drop (j+1)) ((zs.set k ((yD zs k+x*yD ys j+c)%18446744073709551616)).drop (k+1)) ((yD zs k+x*yD ys j+c)/18446744073709551616) =
  zs.take k++wM x (ys.drop j) (zs.drop k) c:=by
 rw[(a9 hk).1,(a9 hk).2,sV hk,sV hj,wM,List.append_assoc];rfl
theorem ZJ {x y zs zs':List Nat}{i:Nat}(hi:i<x.length) (hz:i<zs.length) (hy:0<y.length) (h:zs'=zs.take i++wM (yD x i) y (zs.drop i) 0) :
  zs'.take (i+1)++xm (x.drop (i+1)) y (zs'.drop (i+1))=zs.take i++xm (x.drop i) y (zs.drop i):=by
 have hl:(zs.take i).length=i:=by rw[List.length_take];omega
 obtain⟨a,r,hr⟩:∃ a r,wM (yD x i) y (zs.drop i) 0=a::r:=by
  rw[sV hz]
  cases y with
  | nil=>simp at hy
  | cons b y=>exact⟨_,_,rfl⟩
 have e1:zs'.take (i+1)=zs.take i++[a]:=by
  rw[h,hr,List.take_append,hl,List.take_of_length_le (by omega),Nat.add_sub_cancel_left];rfl
 have e2:zs'.drop (i+1)=r:=by
  rw[h,hr,List.drop_append,hl,List.drop_of_length_le (by omega),Nat.add_sub_cancel_left];rfl
 rw[e1,e2,sV hi];rw[sV hz]at hr⊢;rw[xm,hr,List.append_assoc];rfl
theorem XD (x:Nat) (ys:List Nat) (c:Nat):wM x ys [] c=[]:=by cases ys <;> rfl
theorem Yt (ys zs:List Nat):xm [] ys zs=zs:=by cases zs <;> rfl
end Go.Proofs.YtkmlnjociijpgaaGreatDoor
namespace Go.Proofs.YtkmlnjociijpgaaGreatDoor
open Go.RowKit
def vS (a b x:Int):Int:=bits .or .u32 (x*a%4294967296) (x/b)
theorem fa (x:Int) (w:World) :
  Calls Tryz.prog 247 #[.int .u32 x,.int .i64 (-17)] w fun e w'=>e=.returned (.int .u32 (vS 32768 131072 x))∧w=w':=by
 have e1:bits .and .u64 (IntKind.u64.wrap (-17)) 31=15:=by kernel_rfl
 have e2:IntKind.u64.wrap (32-15)=17:=by kernel_rfl
 exact jdU
theorem UI (x:Int) (w:World) :
  Calls Tryz.prog 229 #[.int .u32 x,.int .i64 17] w fun e w'=>e=.returned (.int .u32 (vS 32768 131072 x))∧w=w':=by
 have R:=Hh (fa x w);exact jdV
theorem U7 (x:Int) (w:World) :
  Calls Tryz.prog 231 #[.int .u32 x,.int .i64 17] w fun e w'=>e=.returned (.int .u32 (vS 32768 131072 x))∧w=w':=by
 have R:=Hh (fa x w);exact jdW
theorem fd (x:Int) (w:World) :
  Calls Tryz.prog 247 #[.int .u32 x,.int .i64 (-19)] w fun e w'=>e=.returned (.int .u32 (vS 8192 524288 x))∧w=w':=by
 have e1:bits .and .u64 (IntKind.u64.wrap (-19)) 31=13:=by kernel_rfl
 have e2:IntKind.u64.wrap (32-13)=19:=by kernel_rfl
 exact jdU
theorem UK (x:Int) (w:World) :
  Calls Tryz.prog 229 #[.int .u32 x,.int .i64 19] w fun e w'=>e=.returned (.int .u32 (vS 8192 524288 x))∧w=w':=by
 have R:=Hh (fd x w);exact jdV
theorem U9 (x:Int) (w:World) :
  Calls Tryz.prog 231 #[.int .u32 x,.int .i64 19] w fun e w'=>e=.returned (.int .u32 (vS 8192 524288 x))∧w=w':=by
 have R:=Hh (fd x w);exact jdW
theorem dE (x:Int) (w:World) :
  Calls Tryz.prog 247 #[.int .u32 x,.int .i64 (-7)] w fun e w'=>e=.returned (.int .u32 (vS 33554432 128 x))∧w=w':=by
 have e1:bits .and .u64 (IntKind.u64.wrap (-7)) 31=25:=by kernel_rfl
 have e2:IntKind.u64.wrap (32-25)=7:=by kernel_rfl
 exact jdU
theorem QV (x:Int) (w:World) :
  Calls Tryz.prog 229 #[.int .u32 x,.int .i64 7] w fun e w'=>e=.returned (.int .u32 (vS 33554432 128 x))∧w=w':=by
 have R:=Hh (dE x w);exact jdV
theorem QP (x:Int) (w:World) :
  Calls Tryz.prog 231 #[.int .u32 x,.int .i64 7] w fun e w'=>e=.returned (.int .u32 (vS 33554432 128 x))∧w=w':=by
 have R:=Hh (dE x w);exact jdW
theorem fc (x:Int) (w:World) :
  Calls Tryz.prog 247 #[.int .u32 x,.int .i64 (-18)] w fun e w'=>e=.returned (.int .u32 (vS 16384 262144 x))∧w=w':=by
 have e1:bits .and .u64 (IntKind.u64.wrap (-18)) 31=14:=by kernel_rfl
 have e2:IntKind.u64.wrap (32-14)=18:=by kernel_rfl
 exact jdU
theorem UJ (x:Int) (w:World) :
  Calls Tryz.prog 229 #[.int .u32 x,.int .i64 18] w fun e w'=>e=.returned (.int .u32 (vS 16384 262144 x))∧w=w':=by
 have R:=Hh (fc x w);exact jdV
theorem U8 (x:Int) (w:World) :
  Calls Tryz.prog 231 #[.int .u32 x,.int .i64 18] w fun e w'=>e=.returned (.int .u32 (vS 16384 262144 x))∧w=w':=by
 have R:=Hh (fc x w);exact jdW
theorem dD (x:Int) (w:World) :
  Calls Tryz.prog 247 #[.int .u32 x,.int .i64 (-6)] w fun e w'=>e=.returned (.int .u32 (vS 67108864 64 x))∧w=w':=by
 have e1:bits .and .u64 (IntKind.u64.wrap (-6)) 31=26:=by kernel_rfl
 have e2:IntKind.u64.wrap (32-26)=6:=by kernel_rfl
 exact jdU
theorem QU (x:Int) (w:World) :
  Calls Tryz.prog 229 #[.int .u32 x,.int .i64 6] w fun e w'=>e=.returned (.int .u32 (vS 67108864 64 x))∧w=w':=by
 have R:=Hh (dD x w);exact jdV
theorem QO (x:Int) (w:World) :
  Calls Tryz.prog 231 #[.int .u32 x,.int .i64 6] w fun e w'=>e=.returned (.int .u32 (vS 67108864 64 x))∧w=w':=by
 have R:=Hh (dD x w);exact jdW
theorem fY (x:Int) (w:World) :
  Calls Tryz.prog 247 #[.int .u32 x,.int .i64 (-11)] w fun e w'=>e=.returned (.int .u32 (vS 2097152 2048 x))∧w=w':=by
 have e1:bits .and .u64 (IntKind.u64.wrap (-11)) 31=21:=by kernel_rfl
 have e2:IntKind.u64.wrap (32-21)=11:=by kernel_rfl
 exact jdU
theorem UG (x:Int) (w:World) :
  Calls Tryz.prog 229 #[.int .u32 x,.int .i64 11] w fun e w'=>e=.returned (.int .u32 (vS 2097152 2048 x))∧w=w':=by
 have R:=Hh (fY x w);exact jdV
theorem U5 (x:Int) (w:World) :
  Calls Tryz.prog 231 #[.int .u32 x,.int .i64 11] w fun e w'=>e=.returned (.int .u32 (vS 2097152 2048 x))∧w=w':=by
 have R:=Hh (fY x w);exact jdW
theorem ff (x:Int) (w:World) :
  Calls Tryz.prog 247 #[.int .u32 x,.int .i64 (-25)] w fun e w'=>e=.returned (.int .u32 (vS 128 33554432 x))∧w=w':=by
 have e1:bits .and .u64 (IntKind.u64.wrap (-25)) 31=7:=by kernel_rfl
 have e2:IntKind.u64.wrap (32-7)=25:=by kernel_rfl
 exact jdU
theorem UM (x:Int) (w:World) :
  Calls Tryz.prog 229 #[.int .u32 x,.int .i64 25] w fun e w'=>e=.returned (.int .u32 (vS 128 33554432 x))∧w=w':=by
 have R:=Hh (ff x w);exact jdV
theorem UC (x:Int) (w:World) :
  Calls Tryz.prog 231 #[.int .u32 x,.int .i64 25] w fun e w'=>e=.returned (.int .u32 (vS 128 33554432 x))∧w=w':=by
 have R:=Hh (ff x w);exact jdW
theorem dC (x:Int) (w:World) :
  Calls Tryz.prog 247 #[.int .u32 x,.int .i64 (-2)] w fun e w'=>e=.returned (.int .u32 (vS 1073741824 4 x))∧w=w':=by
 have e1:bits .and .u64 (IntKind.u64.wrap (-2)) 31=30:=by kernel_rfl
 have e2:IntKind.u64.wrap (32-30)=2:=by kernel_rfl
 exact jdU
theorem QT (x:Int) (w:World) :
  Calls Tryz.prog 229 #[.int .u32 x,.int .i64 2] w fun e w'=>e=.returned (.int .u32 (vS 1073741824 4 x))∧w=w':=by
 have R:=Hh (dC x w);exact jdV
theorem QN (x:Int) (w:World) :
  Calls Tryz.prog 231 #[.int .u32 x,.int .i64 2] w fun e w'=>e=.returned (.int .u32 (vS 1073741824 4 x))∧w=w':=by
 have R:=Hh (dC x w);exact jdW
theorem fZ (x:Int) (w:World) :
  Calls Tryz.prog 247 #[.int .u32 x,.int .i64 (-13)] w fun e w'=>e=.returned (.int .u32 (vS 524288 8192 x))∧w=w':=by
 have e1:bits .and .u64 (IntKind.u64.wrap (-13)) 31=19:=by kernel_rfl
 have e2:IntKind.u64.wrap (32-19)=13:=by kernel_rfl
 exact jdU
theorem UH (x:Int) (w:World) :
  Calls Tryz.prog 229 #[.int .u32 x,.int .i64 13] w fun e w'=>e=.returned (.int .u32 (vS 524288 8192 x))∧w=w':=by
 have R:=Hh (fZ x w);exact jdV
theorem U6 (x:Int) (w:World) :
  Calls Tryz.prog 231 #[.int .u32 x,.int .i64 13] w fun e w'=>e=.returned (.int .u32 (vS 524288 8192 x))∧w=w':=by
 have R:=Hh (fZ x w);exact jdW
theorem fe (x:Int) (w:World) :
  Calls Tryz.prog 247 #[.int .u32 x,.int .i64 (-22)] w fun e w'=>e=.returned (.int .u32 (vS 1024 4194304 x))∧w=w':=by
 have e1:bits .and .u64 (IntKind.u64.wrap (-22)) 31=10:=by kernel_rfl
 have e2:IntKind.u64.wrap (32-10)=22:=by kernel_rfl
 exact jdU
theorem UL (x:Int) (w:World) :
  Calls Tryz.prog 229 #[.int .u32 x,.int .i64 22] w fun e w'=>e=.returned (.int .u32 (vS 1024 4194304 x))∧w=w':=by
 have R:=Hh (fe x w);exact jdV
theorem UB (x:Int) (w:World) :
  Calls Tryz.prog 231 #[.int .u32 x,.int .i64 22] w fun e w'=>e=.returned (.int .u32 (vS 1024 4194304 x))∧w=w':=by
 have R:=Hh (fe x w);exact jdW
def we (l:List Int):Array Value:=(l.map (Value.int .u32)).toArray
def wk (l:List Int) (i:Nat):Int:=l.getD i 0
theorem uL (l:List Int):(we l).size=l.length:=by simp[we]
theorem wL (l:List Int) (i:Nat) (h:i<l.length):(we l)[i]? = some (.int .u32 (wk l i)):=by
 simp[we,wk,h]
theorem rB (l:List Int) (i:Nat) (v:Int):(we l).setIfInBounds i (.int .u32 v)=we (l.set i v):=by
 simp[we,List.map_set]
def vP (bs:List UInt8) (i:Nat):Int:=((bs.getD i 0).toNat:Int)
def WJ (b0 b1 b2 b3:Int):Int:=bits .or .u32 (bits .or .u32 (bits .or .u32 (IntKind.u32.wrap (IntKind.u32.wrap b0*16777216)) (IntKind.u32.wrap (IntKind.u32.wrap b1*65536))) (IntKind.u32.wrap (IntKind.u32.wrap b2*256))) (IntKind.u32.wrap b3)
def OR (x y w7 w16:Int):Int :=
 IntKind.u32.wrap (IntKind.u32.wrap (IntKind.u32.wrap (bits .xor .u32 (bits .xor .u32 (vS 32768 131072 y) (vS 8192 524288 y)) (y/1024)+w7)+bits .xor .u32 (bits .xor .u32 (vS 33554432 128 x) (vS 16384 262144 x)) (x/8))+w16)
structure S8 where
 a:Int
 b:Int
 c:Int
 d:Int
 e:Int
 f:Int
 g:Int
 h:Int
def S8.cells (s:S8):Array Value:=#[.int .u32 s.a,.int .u32 s.b,.int .u32 s.c,.int .u32 s.d,.int .u32 s.e,.int .u32 s.f,.int .u32 s.g,.int .u32 s.h]
def S8.list (s:S8):List Int:=[s.a,s.b,s.c,s.d,s.e,s.f,s.g,s.h]
theorem S8.cells_eq (s:S8):s.cells=we s.list:=rfl
theorem S8.one (s:S8):s.cells.all (·.oneCell')=true:=by simp[S8.cells,Value.oneCell']
def tP (s:S8) (k w:Int):Int :=
 s.h+bits .xor .u32 (bits .xor .u32 (vS 67108864 64 s.e) (vS 2097152 2048 s.e)) (vS 128 33554432 s.e)+bits .xor .u32 (bits .and .u32 s.e s.f) (bits .and .u32 (bits .xor .u32 IntKind.u32.max s.e) s.g)+k+w
def uP (s:S8):Int :=
 bits .xor .u32 (bits .xor .u32 (vS 1073741824 4 s.a) (vS 524288 8192 s.a)) (vS 1024 4194304 s.a)+bits .xor .u32 (bits .xor .u32 (bits .and .u32 s.a s.b) (bits .and .u32 s.a s.c)) (bits .and .u32 s.b s.c)
def Xk (s:S8) (k w:Int):S8:=⟨(tP s k w+uP s)%4294967296,s.a,s.b,s.c,(s.d+tP s k w)%4294967296,s.e,s.f,s.g⟩
def vf (K W:List Int) (h:S8):Nat→S8
 | 0=>h
 | k+1=>Xk (vf K W h k) (wk K k) (wk W k)
def yy (bs:List UInt8):Nat→List Int
 | 0=>List.replicate 64 0
 | k+1=>(yy bs k).set k (if k<16 then WJ (vP bs (4*k)) (vP bs (4*k+1)) (vP bs (4*k+2)) (vP bs (4*k+3))
   else OR (wk (yy bs k) (k-15)) (wk (yy bs k) (k-2)) (wk (yy bs k) (k-7)) (wk (yy bs k) (k-16)))
theorem xg (bs:List UInt8):∀ k,(yy bs k).length=64
 | 0=>by simp[yy]
 | k+1=>by simp[yy,xg bs k]
theorem dn (bs:List UInt8) (k:Nat) (h:k<16):(we (yy bs k)).setIfInBounds k (.int .u32 (WJ (vP bs (4*k)) (vP bs (4*k+1)) (vP bs (4*k+2)) (vP bs (4*k+3))))=we (yy bs (k+1)):=by
 rw[rB,yy,if_pos h]
theorem dm (bs:List UInt8) (k:Nat) (h:16≤k):(we (yy bs k)).setIfInBounds k (.int .u32 (OR (wk (yy bs k) (k-15)) (wk (yy bs k) (k-2)) (wk (yy bs k) (k-7)) (wk (yy bs k) (k-16))))=we (yy bs (k+1)):=by
 rw[rB,yy,if_neg (by omega)]
def iz (h s:List Int):Nat→List Int
 | 0=>h
 | k+1=>(iz h s k).set k (IntKind.u32.wrap (wk (iz h s k) k+wk s k))
theorem nv (h s:List Int):∀ k,(iz h s k).length=h.length
 | 0=>rfl
 | k+1=>by simp[iz,nv h s k]
def rp (K:List Int) (h:S8) (bs:List UInt8):S8 :=
 let s:=vf K (yy bs 64) h 64
 ⟨IntKind.u32.wrap (h.a+s.a),IntKind.u32.wrap (h.b+s.b),IntKind.u32.wrap (h.c+s.c),IntKind.u32.wrap (h.d+s.d),IntKind.u32.wrap (h.e+s.e),IntKind.u32.wrap (h.f+s.f),IntKind.u32.wrap (h.g+s.g),IntKind.u32.wrap (h.h+s.h)⟩
theorem lH:(Tryz.prog.info? 247).map (·.size)=some 8:=by kernel_rfl
theorem t9:(Tryz.prog.info? 217).map (·.size)=some 1:=by kernel_rfl
theorem uV {H:Snap}{b off c:Nat}{bs:List UInt8}(hb:IsBytes H (some ⟨b,off,none⟩) c bs) (i:Nat) (hi:i<bs.length):H.cell? ⟨b,off+i,none⟩=some (.int .u8 (vP bs i)):=by
 obtain⟨b',off',e,h⟩:=hb.at_ (by omega)
 cases e
 rw[h i hi]
 simp[vP,hi]
theorem ZF {H:Snap}{b off c:Nat}{bs:List UInt8}(hb:IsBytes H (some ⟨b,off,none⟩) c bs) (hl:bs.length=64) {hg kg:Nat}{h0:S8}{KK:List Int}(w:World) (hH:Holds w H)
  (hh:Blk w hg 247 h0.cells) (hKb:Blk w kg 246 (we KK)) (hK64:KK.length=64) :
  Calls Tryz.prog 211 #[.pointer (some ⟨hg,0,none⟩),.pointer (some ⟨kg,0,none⟩),.slice (some ⟨b,off,none⟩) 64 c] w fun e w'=>(∃ v,e=.returned v)∧Blk w' hg 247 (rp KK h0 bs).cells∧w.grownBy w' (some hg):=by
 have HN:=Hh (Blk.new w 246 (we (yy bs 0)));have HB:=Hh hb;have HL:=Hh hl;have HH:=Hh hH;have Cg:=Hh hK64;clear hb hl hH hK64;go_enter Tryz.func211,Tryz.ntmps211
 go_wp2_with fail
 go_loopw [17] (fun v17 wr=>∃ k:Nat,v17=.int .i64 (k:Int)∧k≤64∧Blk wr w.heap.size 246 (we (yy bs k))∧Below w.heap.size w wr) (fun v17 _=>(64-intOf v17).toNat)
 case atStart=>exact⟨0,rfl,by omega,HN.out,zX _ _⟩
 case round =>
 obtain⟨k,rfl,Y3,hW,oL⟩:=hrel
 by_cases z9:(k:Int)<64
 ·by_cases Rv:(k:Int)<16
  ·obtain⟨j0,VN⟩:∃ j,4*k=j:=⟨_,rfl⟩
   obtain⟨j1,fG⟩:∃ j,4*k+1=j:=⟨_,rfl⟩
   obtain⟨j2,cd⟩:∃ j,4*k+2=j:=⟨_,rfl⟩
   obtain⟨j3,WV⟩:∃ j,4*k+3=j:=⟨_,rfl⟩
   have W0:IntKind.i64.wrap (4*(k:Int))=(j0:Int):=by rw[← VN];exact IntWalk.i64_in _ (by omega)
   have W1:IntKind.i64.wrap ((j0:Int)+1)=(j1:Int):=by rw[← fG,← VN];exact IntWalk.i64_in _ (by omega)
   have W2:IntKind.i64.wrap ((j0:Int)+2)=(j2:Int):=by rw[← cd,← VN];exact IntWalk.i64_in _ (by omega)
   have W3:IntKind.i64.wrap ((j0:Int)+3)=(j3:Int):=by rw[← WV,← VN];exact IntWalk.i64_in _ (by omega)
   have l0:(j0:Int)<64:=by omega
   have l1:(j1:Int)<64:=by omega
   have l2:(j2:Int)<64:=by omega
   have l3:(j3:Int)<64:=by omega
   obtain⟨b0,b1,b2,b3,HJ⟩:=jgE;clear VN fG cd WV;have OS:=Hh (HH.out.below oL (Nat.le_refl _));have cR:=hW.drew;go_upto_region 5 with fail
   refine zr 35 (fun wx=>wx.cell? ⟨b,off+j0,none⟩=some (.int .u8 (vP bs j0))∧wx.cell? ⟨b,off+j1,none⟩=some (.int .u8 (vP bs j1))∧wx.cell? ⟨b,off+j2,none⟩=some (.int .u8 (vP bs j2))∧wx.cell? ⟨b,off+j3,none⟩=some (.int .u8 (vP bs j3))) (by kernel_rfl) (⟨OS.out.drew.cell b0,OS.out.drew.cell b1,OS.out.drew.cell b2,OS.out.drew.cell b3⟩) (fun zy=>?_)
   refine Tk 0 rfl zy ?_
   refine Tk 1 rfl zy ?_
   refine Tk 2 rfl zy ?_
   refine Tk 3 rfl zy ?_
   refine Tk 4 rfl zy ?_
   refine Tk 5 rfl zy ?_
   refine Tk 6 rfl zy ?_
   refine Tk 7 rfl zy ?_
   refine Tk 8 rfl zy ?_
   refine Tk 9 rfl zy ?_
   refine Tk 10 rfl zy ?_
   refine Tk 11 rfl zy ?_
   refine Tk 12 rfl zy ?_
   refine Tk 13 rfl zy ?_
   refine Tk 14 rfl zy ?_
   refine Tk 15 rfl zy ?_
   refine Tk 16 rfl zy ?_
   refine Tk 17 rfl zy ?_
   refine Tk 18 rfl zy ?_
   refine Tk 19 rfl zy ?_
   refine Tk 20 rfl zy ?_
   refine Tk 21 rfl zy ?_
   refine Tk 22 rfl zy ?_
   refine Tk 23 rfl zy ?_
   refine Tk 24 rfl zy ?_
   refine Tk 25 rfl zy ?_
   refine Tk 26 rfl zy ?_
   refine Tk 27 rfl zy ?_
   refine Tk 28 rfl zy ?_
   refine Tk 29 rfl zy ?_
   refine Tk 30 rfl zy ?_
   refine Tk 31 rfl zy ?_
   refine Tk 32 rfl zy ?_
   refine Tk 33 rfl zy ?_
   refine Tk 34 rfl zy ?_
   refine To 35 rfl fun K hK=>?_
   rw[if_pos (by rfl)]
   refine zO _ _ _ rfl w.heap.size k (.int .u32 (WJ (vP bs j0) (vP bs j1) (vP bs j2) (vP bs j3))) rfl rfl _ _ cR t9 (by rw[uL,xg];omega) rfl fun w9 hW9 xt=>?_
   refine Kz hK ?_
   clear hK K
   refine Wd ?_
   clear zy;have YY:Below w.heap.size w w9:=oL.drew.grown xt oL.size (by rintro q ⟨⟩;exact Nat.le_refl _)
   have Lw:Blk w9 w.heap.size 246 (we (yy bs (k+1))):=by
    exact jdj
   exact jbe
  have ew:16≤k:=by omega
  obtain⟨a15,Xw⟩:∃ j,k-15=j:=⟨_,rfl⟩
  obtain⟨a2,jE⟩:∃ j,k-2=j:=⟨_,rfl⟩
  obtain⟨a7,M5⟩:∃ j,k-7=j:=⟨_,rfl⟩
  obtain⟨a16,Xx⟩:∃ j,k-16=j:=⟨_,rfl⟩
  have W15:IntKind.i64.wrap ((k:Int)-15)=(a15:Int):=by rw[← Xw,show((k-15:Nat):Int)=(k:Int)-15 by omega];exact IntWalk.i64_in _ (by omega)
  have W2:IntKind.i64.wrap ((k:Int)-2)=(a2:Int):=by rw[← jE,show((k-2:Nat):Int)=(k:Int)-2 by omega];exact IntWalk.i64_in _ (by omega)
  have W7:IntKind.i64.wrap ((k:Int)-7)=(a7:Int):=by rw[← M5,show((k-7:Nat):Int)=(k:Int)-7 by omega];exact IntWalk.i64_in _ (by omega)
  have W16:IntKind.i64.wrap ((k:Int)-16)=(a16:Int):=by rw[← Xx,show((k-16:Nat):Int)=(k:Int)-16 by omega];exact IntWalk.i64_in _ (by omega)
  have l15:(a15:Int)<64:=by omega
  have l2:(a2:Int)<64:=by omega
  have l7:(a7:Int)<64:=by omega
  have l16:(a16:Int)<64:=by omega
  have cR:=hW.drew;obtain⟨b15,b2,b7,b16,HJ⟩:=jgC;obtain⟨x15,YB⟩:∃ x,wk (yy bs k) a15=x:=⟨_,rfl⟩
  obtain⟨x2,oM⟩:∃ x,wk (yy bs k) a2=x:=⟨_,rfl⟩
  obtain⟨x7,MI⟩:∃ x,wk (yy bs k) a7=x:=⟨_,rfl⟩
  obtain⟨x16,YC⟩:∃ x,wk (yy bs k) a16=x:=⟨_,rfl⟩
  rw[YB]at b15;rw[oM]at b2;rw[MI]at b7;rw[YC]at b16;have HX:=Hh (And.intro YB (And.intro oM (And.intro MI YC)));clear Xw jE M5 Xx YB oM MI YC;go_upto_region 6 with fail
  refine zr 10 (fun wx=>wx.cell? ⟨w.heap.size,a15,none⟩=some (.int .u32 x15)∧wx.cell? ⟨w.heap.size,a2,none⟩=some (.int .u32 x2)) (by kernel_rfl) (⟨b15,b2⟩) (fun zy=>?_)
  refine TkS 0 rfl zy ?_
  refine TkS 1 rfl zy ?_
  refine TkS 2 rfl zy ?_
  refine TkS 3 rfl zy ?_
  refine TkS 4 rfl zy ?_
  refine TkS 5 rfl zy ?_
  refine TkS 6 rfl zy ?_
  refine TkS 7 rfl zy ?_
  refine TkS 8 rfl zy ?_
  refine TkS 9 rfl zy ?_
  refine Wd ?_
  clear zy;go_upto_region 7 with fail
  refine zr 29 (fun wx=>wx.cell? ⟨w.heap.size,a7,none⟩=some (.int .u32 x7)∧wx.cell? ⟨w.heap.size,a16,none⟩=some (.int .u32 x16)) (by kernel_rfl) (⟨b7,b16⟩) (fun zy=>?_)
  refine Tk 0 rfl zy ?_
  refine Tk 1 rfl zy ?_
  refine Tk 3 rfl zy ?_
  refine Tk 6 rfl zy ?_
  refine Tk 7 rfl zy ?_
  refine Tk 9 rfl zy ?_
  refine Tk 10 rfl zy ?_
  refine Tk 11 rfl zy ?_
  refine Tk 12 rfl zy ?_
  refine Tk 14 rfl zy ?_
  refine Tk 16 rfl zy ?_
  refine Tk 19 rfl zy ?_
  refine Tk 20 rfl zy ?_
  refine Tk 23 rfl zy ?_
  refine Tk 24 rfl zy ?_
  refine Tk 25 rfl zy ?_
  refine Tk 26 rfl zy ?_
  refine To 2 rfl fun K hK=>?_
  go_simp
  refine(UI _ _).mono ?_
  rintro e w5 ⟨rfl,rfl⟩
  clear zy
  refine hK.out _ _ (fun _=>?_) (fun zy=>?_)
  ·exact⟨b7,b16⟩
  clear hK K;replace zy:=zy (by decide)
  try simp only[Act.put,zz1,zz2,zz3,zz4,zz5,zz6]
  refine To 4 rfl fun K hK=>?_
  go_simp
  refine(UK _ _).mono ?_
  rintro e w5 ⟨rfl,rfl⟩
  clear zy
  refine hK.out _ _ (fun _=>?_) (fun zy=>?_)
  ·exact⟨b7,b16⟩
  clear hK K;replace zy:=zy (by decide)
  try simp only[Act.put,zz1,zz2,zz3,zz4,zz5,zz6]
  refine Tk 5 rfl zy ?_
  refine Tk 8 rfl zy ?_
  refine Tk 13 rfl zy ?_
  refine To 15 rfl fun K hK=>?_
  go_simp
  refine(QV _ _).mono ?_
  rintro e w5 ⟨rfl,rfl⟩
  clear zy
  refine hK.out _ _ (fun _=>?_) (fun zy=>?_)
  ·exact⟨b7,b16⟩
  clear hK K;replace zy:=zy (by decide)
  try simp only[Act.put,zz1,zz2,zz3,zz4,zz5,zz6]
  refine To 17 rfl fun K hK=>?_
  go_simp
  refine(UJ _ _).mono ?_
  rintro e w5 ⟨rfl,rfl⟩
  clear zy
  refine hK.out _ _ (fun _=>?_) (fun zy=>?_)
  ·exact⟨b7,b16⟩
  clear hK K;replace zy:=zy (by decide)
  try simp only[Act.put,zz1,zz2,zz3,zz4,zz5,zz6]
  refine Tk 18 rfl zy ?_
  refine Tk 21 rfl zy ?_
  refine Tk 22 rfl zy ?_
  refine Tk 27 rfl zy ?_
  refine Tk 28 rfl zy ?_
  refine To 29 rfl fun K hK=>?_
  rw[if_pos (by rfl)]
  refine zO _ _ _ rfl w.heap.size k (.int .u32 (OR x15 x2 x7 x16)) rfl rfl _ _ cR t9 (by rw[uL,xg];omega) rfl fun w9 hW9 xt=>?_
  refine Kz hK ?_
  clear hK K
  refine Wd ?_
  clear zy;have YY:Below w.heap.size w w9:=oL.drew.drew.grown xt oL.size (by rintro q ⟨⟩;exact Nat.le_refl _)
  have Lw:Blk w9 w.heap.size 246 (we (yy bs (k+1))):=by
   exact jcE
  exact jbe
 obtain rfl:k=64:=by omega
 rw[show((64:Nat):Int)=64 from rfl]at z9⊢;obtain⟨cY,Db,d0,d1,d2,d3,d4,d5,d6,d7⟩:=jfu;have HZ:=Hh oL.size;have Cr:Hid (hg<w.heap.size∧kg<w.heap.size):=⟨hh.lt,hKb.lt⟩
 obtain⟨G,hG⟩:∃ G,wr.heap.size=G:=⟨_,rfl⟩
 have oP:=Hh (Blk.new wr 247 h0.cells);rw[hG]at oP;have S9:=hW.alloc (.cells h0.cells 247);have zD:=oL.alloc oL.size (.cells h0.cells 247);have HG:=Hh hG;have Mc:Hid (w.heap.size<G):=by have:=hW.lt;rw[Hid];omega
 clear HN z9 Y3 cY hG;go_wp2_with fail
 rw[HG.out];go_loopw [98] (fun v98 wx=>∃ k:Nat,v98=.int .i64 (k:Int)∧k≤64∧Blk wx G 247 (vf KK (yy bs 64) h0 k).cells∧Blk wx w.heap.size 246 (we (yy bs 64))∧Below w.heap.size w wx) (fun v98 _=>(64-intOf v98).toNat)
 case atStart=>exact⟨0,rfl,by omega,oP.out,S9,zD⟩
 case round =>
 clear S9 zD oP d0 d1 d2 d3 d4 d5 d6 d7 hW Db;obtain⟨k,rfl,Y3,hS,Om,uv⟩:=hrel
 by_cases z9:(k:Int)<64
 ·obtain⟨s,hs⟩:∃ s,vf KK (yy bs 64) h0 k=s:=⟨_,rfl⟩
  rw[hs]at hS;have Li:=Hh hs;clear hs;obtain⟨c0,c1,c2,c3,c4,c5,c6,c7⟩:=jfB;have ck:=(hKb.below uv).cell k (wL _ _ (by have:=Cg.out;omega));have cw:=Om.cell k (wL _ _ (by rw[xg];omega));obtain⟨xk,PS⟩:∃ x,wk KK k=x:=⟨_,rfl⟩
  obtain⟨xw,aw⟩:∃ x,wk (yy bs 64) k=x:=⟨_,rfl⟩
  rw[PS]at ck;rw[aw]at cw;have HX:=Hh (And.intro PS aw);clear PS aw;go_upto_region 13 with fail
  refine zr 6 (fun wx=>wx.cell? ⟨G,0,none⟩=some (.int .u32 s.a)∧wx.cell? ⟨G,4,none⟩=some (.int .u32 s.e)) (by kernel_rfl) (⟨c0,c4⟩) (fun zy=>?_)
  refine TkS 0 rfl zy ?_
  refine TkS 1 rfl zy ?_
  refine TkS 2 rfl zy ?_
  refine TkS 3 rfl zy ?_
  refine TkS 4 rfl zy ?_
  refine TkS 5 rfl zy ?_
  refine Wd ?_
  clear zy;go_upto_region 14 with fail
  refine zr 33 (fun wx=>wx.cell? ⟨G,7,none⟩=some (.int .u32 s.h)∧wx.cell? ⟨G,5,none⟩=some (.int .u32 s.f)∧wx.cell? ⟨G,6,none⟩=some (.int .u32 s.g)∧wx.cell? ⟨kg,k,none⟩=some (.int .u32 xk)∧wx.cell? ⟨w.heap.size,k,none⟩=some (.int .u32 xw)) (by kernel_rfl) (⟨c7,c5,c6,ck,cw⟩) (fun zy=>?_)
  refine TkS 0 rfl zy ?_
  refine TkS 1 rfl zy ?_
  refine TkS 2 rfl zy ?_
  refine TkS 4 rfl zy ?_
  refine TkS 7 rfl zy ?_
  refine TkS 11 rfl zy ?_
  refine TkS 12 rfl zy ?_
  refine TkS 13 rfl zy ?_
  refine TkS 14 rfl zy ?_
  refine TkS 15 rfl zy ?_
  refine TkS 16 rfl zy ?_
  refine TkS 17 rfl zy ?_
  refine TkS 18 rfl zy ?_
  refine TkS 19 rfl zy ?_
  refine TkS 20 rfl zy ?_
  refine TkS 22 rfl zy ?_
  refine TkS 23 rfl zy ?_
  refine TkS 24 rfl zy ?_
  refine TkS 25 rfl zy ?_
  refine TkS 26 rfl zy ?_
  refine TkS 28 rfl zy ?_
  refine TkS 29 rfl zy ?_
  refine TkS 30 rfl zy ?_
  refine To 3 rfl fun K hK=>?_
  go_simp
  refine(QU _ _).mono ?_
  rintro e w5 ⟨rfl,rfl⟩
  clear zy
  refine hK.out _ _ (fun _=>?_) (fun zy=>?_)
  ·exact jcV
  clear hK K;replace zy:=zy (by decide)
  try simp only[Act.put,zz1,zz2,zz3,zz4,zz5,zz6]
  refine To 5 rfl fun K hK=>?_
  go_simp
  refine(UG _ _).mono ?_
  rintro e w5 ⟨rfl,rfl⟩
  clear zy
  refine hK.out _ _ (fun _=>?_) (fun zy=>?_)
  ·exact jcV
  clear hK K;replace zy:=zy (by decide)
  try simp only[Act.put,zz1,zz2,zz3,zz4,zz5,zz6]
  refine TkS 6 rfl zy ?_
  refine To 8 rfl fun K hK=>?_
  go_simp
  refine(UM _ _).mono ?_
  rintro e w5 ⟨rfl,rfl⟩
  clear zy
  refine hK.out _ _ (fun _=>?_) (fun zy=>?_)
  ·exact jcV
  clear hK K;replace zy:=zy (by decide)
  try simp only[Act.put,zz1,zz2,zz3,zz4,zz5,zz6]
  refine TkS 9 rfl zy ?_
  refine TkS 10 rfl zy ?_
  refine TkS 21 rfl zy ?_
  refine TkS 27 rfl zy ?_
  refine TkS 31 rfl zy ?_
  refine TkS 32 rfl zy ?_
  refine Wd ?_
  clear zy;go_upto_region 15 with fail
  refine zr 25 (fun wx=>wx.cell? ⟨G,1,none⟩=some (.int .u32 s.b)∧wx.cell? ⟨G,2,none⟩=some (.int .u32 s.c)) (by kernel_rfl) (⟨c1,c2⟩) (fun zy=>?_)
  refine TkS 0 rfl zy ?_
  refine TkS 2 rfl zy ?_
  refine TkS 5 rfl zy ?_
  refine TkS 8 rfl zy ?_
  refine TkS 9 rfl zy ?_
  refine TkS 10 rfl zy ?_
  refine TkS 11 rfl zy ?_
  refine TkS 12 rfl zy ?_
  refine TkS 13 rfl zy ?_
  refine TkS 14 rfl zy ?_
  refine TkS 15 rfl zy ?_
  refine TkS 16 rfl zy ?_
  refine TkS 17 rfl zy ?_
  refine TkS 18 rfl zy ?_
  refine TkS 19 rfl zy ?_
  refine TkS 20 rfl zy ?_
  refine TkS 21 rfl zy ?_
  refine TkS 22 rfl zy ?_
  refine To 1 rfl fun K hK=>?_
  go_simp
  refine(QT _ _).mono ?_
  rintro e w5 ⟨rfl,rfl⟩
  clear zy
  refine hK.out _ _ (fun _=>?_) (fun zy=>?_)
  ·exact⟨c1,c2⟩
  clear hK K;replace zy:=zy (by decide)
  try simp only[Act.put,zz1,zz2,zz3,zz4,zz5,zz6]
  refine To 3 rfl fun K hK=>?_
  go_simp
  refine(UH _ _).mono ?_
  rintro e w5 ⟨rfl,rfl⟩
  clear zy
  refine hK.out _ _ (fun _=>?_) (fun zy=>?_)
  ·exact⟨c1,c2⟩
  clear hK K;replace zy:=zy (by decide)
  try simp only[Act.put,zz1,zz2,zz3,zz4,zz5,zz6]
  refine TkS 4 rfl zy ?_
  refine To 6 rfl fun K hK=>?_
  go_simp
  refine(UL _ _).mono ?_
  rintro e w5 ⟨rfl,rfl⟩
  clear zy
  refine hK.out _ _ (fun _=>?_) (fun zy=>?_)
  ·exact⟨c1,c2⟩
  clear hK K;replace zy:=zy (by decide)
  try simp only[Act.put,zz1,zz2,zz3,zz4,zz5,zz6]
  refine TkS 7 rfl zy ?_
  refine TkS 23 rfl zy ?_
  refine TkS 24 rfl zy ?_
  refine Wd ?_
  clear zy;go_wp2_with (with_reducible refine zx ?_)
  refine zm rfl _ _ _ rfl rfl G (Xk s xk xw).cells rfl rfl _ _ hS lH rfl (S8.one _) fun w9 PN xt=>?_
  have j4:Blk w9 G 247 (vf KK (yy bs 64) h0 (k+1)).cells:=by
   rw[vf,Li.out,HX.out.1,HX.out.2]
   exact PN
  have aa:w.heap.size<G:=Mc.out;exact jbn
 obtain rfl:k=64:=by omega
 rw[show((64:Nat):Int)=64 from rfl]at z9⊢;obtain⟨s,hs⟩:∃ s,vf KK (yy bs 64) h0 64=s:=⟨_,rfl⟩
 rw[hs]at hS;have Li:=Hh hs;have Il:=hh.below uv;have aa:w.heap.size<G:=Mc.out;have hgh:hg<w.heap.size:=Cr.out.1;clear hs z9 Y3 hKb Om;go_wp2_with fail
 go_loopw [180] (fun v180 wx=>∃ k:Nat,v180=.int .i64 (k:Int)∧k≤8∧Blk wx hg 247 (we (iz h0.list s.list k))∧Blk wx G 247 (we s.list)∧w.grownBy wx (some hg)) (fun v180 _=>(8-intOf v180).toNat)
 case atStart=>exact⟨0,rfl,by omega,Il,hS,vW uv _⟩
 case round =>
 clear Il hS uv;obtain⟨k,rfl,Ir,am,ad,Sp⟩:=hrel
 by_cases z9:(k:Int)<8
 ·obtain⟨ch,cs⟩:=jhL;obtain⟨xh,MJ⟩:∃ x,wk (iz h0.list s.list k) k=x:=⟨_,rfl⟩
  obtain⟨xs,Sc⟩:∃ x,wk s.list k=x:=⟨_,rfl⟩
  rw[MJ]at ch;rw[Sc]at cs;have HX:=Hh (And.intro MJ Sc);clear MJ Sc;go_upto_region 21 with fail
  refine zr 11 (fun wx=>wx.cell? ⟨hg,k,none⟩=some (.int .u32 xh)∧wx.cell? ⟨G,k,none⟩=some (.int .u32 xs)) (by kernel_rfl) (⟨ch,cs⟩) (fun zy=>?_)
  refine Tk 0 rfl zy ?_
  refine Tk 1 rfl zy ?_
  refine Tk 2 rfl zy ?_
  refine Tk 3 rfl zy ?_
  refine Tk 4 rfl zy ?_
  refine Tk 5 rfl zy ?_
  refine Tk 6 rfl zy ?_
  refine Tk 7 rfl zy ?_
  refine Tk 8 rfl zy ?_
  refine Tk 9 rfl zy ?_
  refine Tk 10 rfl zy ?_
  refine To 11 rfl fun K hK=>?_
  exact jaT
 obtain rfl:k=8:=by omega
 rw[show((8:Nat):Int)=8 from rfl]at z9⊢;have hE:we (iz h0.list s.list 8)=(rp KK h0 bs).cells:=by rw[rp,Li.out];rfl
 rw[hE]at am;clear hE;go_wp2_with fail
 go_end0
 exact⟨⟨_,rfl⟩,am,Sp⟩
end Go.Proofs.YtkmlnjociijpgaaGreatDoor
