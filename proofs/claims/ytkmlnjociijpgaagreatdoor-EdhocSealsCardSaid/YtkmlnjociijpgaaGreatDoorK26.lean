/- squeezed. Walks: the program's Decode. Walks -/
import Derived.Test.YtkmlnjociijpgaaGreatDoorK25
set_option linter.unusedVariables false
set_option linter.unusedSimpArgs false
set_option maxRecDepth 100000
set_option maxHeartbeats 6400000
namespace Go.Proofs.YtkmlnjociijpgaaGreatDoor
open Go.RowKit
theorem jad{P:Prop}(h:P:=by
 go_wp2_with fail
 have rx:w.heap.size<(w.alloc zf).heap.size:=xO.lt
 generalize w.alloc zf=w1 at xO hG rx⊢
 refine(C w1 hG.holds).out.mono ?_
 rintro e w3 hout
 unfold uK at hout
 cases hr:yz l with
 | err q =>
  rw[hr]at hout;obtain⟨rfl,hb⟩:=hout;have jG:=Hh hr;have mM:=Hh (show xz l=.error q by have:=jB.out;have:=gj.out;rw[xz,if_neg (by omega),hr]);clear hr;have yE:=xO.below hb;obtain⟨H',Ls⟩:∃ H',H'=H:=⟨_,rfl⟩
  have yA:Grows w H w3 H':=by rw[Ls];exact hG.trans (Grows.of_below hG.holds hb)
  have fP:H' w.heap.size=none:=by rw[Ls];exact wg
  clear Ls;have sz:((q:Int) != 0)=true:=by rw[bne_iff_ne];have:=zN _ _ _ _ jG.out;omega
  have oD:((q:Int)=0)=False:=eq_false (by have:=zN _ _ _ _ jG.out;omega);exact jdJ
 | ok x k cc =>
 rw[hr]at hout;obtain⟨ja,jb,jc,jd,H',rfl,hg,hi⟩:=hout;have jG:=Hh hr;clear hr;have yE:=xO.below hg.below;have yA:Grows w H w3 H':=hG.trans hg;have fP:H' w.heap.size=none:=hg.none wg xO.lt
 by_cases hk:k<n
 ·have mM:=Hh (show xz l=.error 9 by have:=jB.out;have:=gj.out;rw[xz,if_neg (by omega),jG.out];simp only;rw[if_pos (by omega)]);have k1:decide ((k:Int)<n)=true:=by rw[decide_eq_true_eq];omega
  have k2:(k<n)=True:=eq_true hk;clear hk;exact jdJ
 have mM:=Hh (show xz l=.ok x by have:=jB.out;have:=gj.out;rw[xz,if_neg (by omega),jG.out];simp only;rw[if_neg (by omega)]);have k1:decide ((k:Int)<n)=false:=by rw[decide_eq_false_iff_not];omega
 have k2:(k<n)=False:=eq_false hk;clear hk;go_wp2_with (with_reducible refine zx ?_)
 unfold zZ
 have VT:w.heap.size<w3.heap.size:=yE.lt;have hN:=Blk.new w3 77 #[.int .i64 0,.int .u64 0,.slice none 0 0,.slice none 0 0];have wo:Blk (w3.alloc zf) w.heap.size 77 #[.int .i64 0,.int .u64 0,.slice none 0 0,.slice none 0 0]:=yE.alloc _;have xK:=yA.alloc zf;have fI:H' w3.heap.size=none:=yA.holds.none_of_ge (by omega);have pa:Blk (w3.alloc zf) w3.heap.size 77 #[.int .i64 0,.int .u64 0,.slice none 0 0,.slice none 0 0]:=hN;clear hN yE
 generalize w3.alloc zf=w4 at pa wo xK⊢
 refine stI pa fun w5 xG zK=>?_
 have vU:=wo.gr zK (by omega);have y8:=xK.grownOwn fI (by omega) zK;clear wo xK pa;have c0:=xG.cell 0 rfl;have c1:=xG.cell 1 rfl;have c2:=xG.cell 2 rfl;have c3:=xG.cell 3 rfl;go_wp2_with (with_reducible refine zx ?_)
 refine stI vU fun w7 wU xQ=>?_
 have vm:=y8.grownOwn fP (by omega) xQ;go_wp2_with fail
 refine zo rfl rfl wU rfl rfl zj rfl ?_
 unfold wV
 rw[mM.out]
 exact⟨ja,jb,jc,jd,H',rfl,vm,hi⟩):P:=h
theorem ja7{P:Prop}(h:P:=by exact je9):P:=h
theorem jbg{P:Prop}(h:P:=by
 have ht:(0:Int)<(m:Int)/(2:Int) ^ (k+1):=by
  rw[mY];have h1:2 ^ (k+1)≤m:=Nat.le_trans (Nat.pow_le_pow_right (by omega) uh) (Nat.log2_self_le HM.out.1);have:=Nat.div_pos h1 (Nat.two_pow_pos _)
  omega
 clear mY;have jj:=Hh uh;clear uh;go_wp2_with fail
 go_round
 case rel=>exact⟨k+1,jj.out,by go_num⟩
 case measure=>have:=jj.out;simp[intOf];omega):P:=h
theorem jct{P:Prop}(h:P:=by
 clear W xZ rl qq hM WM h0;go_enter Tryz.func186,Tryz.ntmps186
 go_wp2_with fail
 go_ret
 refine⟨?_,rfl⟩
 rw[WW.out,← O2.out];rfl):P:=h
theorem jcv{P:Prop}(h:P:=by
 clear W xZ rl qq hM;go_enter Tryz.func186,Tryz.ntmps186
 go_wp2_with fail
 go_ret
 exact⟨by rw[WW.out,← O2.out];rfl,rfl⟩):P:=h
theorem jc4{P:Prop}(h:P:=by
 rw[mY];have:m<2 ^ (k+1):=by rw[VP];exact Nat.lt_log2_self
 rw[Nat.div_eq_of_lt this];simp):P:=h
theorem jds{P:Prop}(h:P:=by
 rw[← B1]at O3
 refine⟨?_,rfl⟩
 rw[WW.out,← eC.out,← O3];rfl):P:=h
theorem jdJ{P:Prop}(h:P:=by
 go_wp2_with (with_reducible refine zx ?_)
 unfold zZ
 have VT:w.heap.size<w3.heap.size:=yE.lt;have hN:=Blk.new w3 77 #[.int .i64 0,.int .u64 0,.slice none 0 0,.slice none 0 0];have wo:Blk (w3.alloc zf) w.heap.size 77 #[.int .i64 0,.int .u64 0,.slice none 0 0,.slice none 0 0]:=yE.alloc _;have xK:=yA.alloc zf;have fI:H' w3.heap.size=none:=yA.holds.none_of_ge (by omega);have pa:Blk (w3.alloc zf) w3.heap.size 77 #[.int .i64 0,.int .u64 0,.slice none 0 0,.slice none 0 0]:=hN;clear hN yE
 generalize w3.alloc zf=w4 at pa wo xK⊢
 refine stI pa fun w5 xG zK=>?_
 have vU:=wo.gr zK (by omega);have y8:=xK.grownOwn fI (by omega) zK;clear wo xK pa;go_wp2_with (with_reducible refine zx ?_)
 refine stI vU fun w7 wU xQ=>?_
 have vm:=y8.grownOwn fP (by omega) xQ;exact je9):P:=h
theorem jen{P:Prop}(h:P:=by
 go_wp2_with (with_reducible refine zx ?_)
 unfold zZ
 generalize w.alloc zf=w1 at xO hG⊢
 refine stI xO fun w7 wU xQ=>?_
 have vm:=hG.grownOwn wg (by omega) xQ;exact ja7):P:=h
theorem jeV{P:Prop}(h:P:=by
 clear W xZ rl qq;go_enter Tryz.func186,Tryz.ntmps186
 exact jaY):P:=h
theorem je9{P:Prop}(h:P:=by
 go_wp2_with fail
 refine zo rfl rfl wU rfl rfl zj rfl ?_
 unfold wV
 rw[mM.out]
 exact⟨rfl,vm.below⟩):P:=h
theorem jf6{P:Prop}(h:P:=by have hT:=Blk.new w 77 #[.int .i64 0,.int .u64 0,.slice none 0 0,.slice none 0 0];have hG:=(Grows.refl hH).alloc zf;have xO:Blk (w.alloc zf) w.heap.size 77 #[.int .i64 0,.int .u64 0,.slice none 0 0,.slice none 0 0]:=hT;have wg:H w.heap.size=none:=hH.none_of_ge (by omega);exact And.intro hT (And.intro hG (And.intro xO wg))):P:=h
theorem jgo{P:Prop}(h:P:=by have O2:Hid (bits .or .u64 (bits .or .u64 (S:Int) 9218868437227405312) (M:Int)=((S+2047*4503599627370496+M:Nat):Int)):=nU (s:=s) HS.out xZ (by omega) (by omega) rfl;exact O2):P:=h
def wV (w:World) (H:Snap) (l:List UInt8) (e:Ending) (w':World):Prop :=
 match xz l with
 | .error q=>e=.returned (.tuple #[lN,.int .i64 (q:Int)])∧Below w.heap.size w w'
 | .ok x=>∃ ja jb jc jd H',e=.returned (.tuple #[rG x ja jb jc jd,.int .i64 0])∧Grows w H w' H'∧IsItem H' ja jb jc jd x
theorem Ye {H:Snap}(hTab:Tabs H) (w:World) (hH:Holds w H) {A:Option Addr}{n c:Nat}{l:List UInt8}(hn:n=l.length) (hl:IsBytes H A c l) :
  Calls Tryz.prog 52 #[.slice A n c] w (wV w H l):=by
 obtain⟨hT,hG,xO,wg⟩:=jf6;clear hT;have jB:=Hh hn;have C:=fun w1 h1=>Hh (jK hTab w1 h1 hn hl)
 clear hn
 by_cases hbig:4096<n
 ·have b1:decide ((n:Int) > 4096)=true:=by rw[decide_eq_true_eq];omega
  have b2:decide ((4096:Int)<n)=true:=by rw[decide_eq_true_eq];omega
  have hd:xz l=.error 8:=by have:=jB.out;rw[xz,if_pos (by omega)]
  have mM:=Hh hd;clear hd C;go_enter Tryz.func52,Tryz.ntmps52
  exact jen
 have b1:decide ((n:Int) > 4096)=false:=by rw[decide_eq_false_iff_not];omega
 have b2:decide ((4096:Int)<n)=false:=by rw[decide_eq_false_iff_not];omega
 have gj:=Hh hbig;clear hbig;go_enter Tryz.func52,Tryz.ntmps52
 exact jad
def mW (d:Nat):Prop:=∀ (w:World) (H:Snap) (g:Nat) (A:Option Addr) (c:Nat) (l:List UInt8) (p cnt lv:Nat),Tabs H→lv+d=8→Psr 142 w g H A c l p cnt→
 Calls Tryz.prog 117 #[.pointer (some ⟨g,0,none⟩),.int .i64 (lv:Int)] w (ItemOut 142 w H g A c l p (ze d (l.drop p) cnt))
theorem eZ (hI:∀ d,mW d) {H:Snap}(hTab:Tabs H) (w:World) (hH:Holds w H) {A:Option Addr}{n c:Nat}{l:List UInt8}(hn:n=l.length) (hl:IsBytes H A c l) :
  Calls Tryz.prog 74 #[.slice A n c] w (uK w H l):=by
 have EI:=hl.le;have mv:=hl.max;obtain⟨m,hm⟩:∃ m,min n 4096=m:=⟨_,rfl⟩
 have WY:min (n:Int) 4096=(m:Int):=by omega
 have m1:(m:Int)≤(c:Int):=by omega
 have m0:(0:Int)≤(m:Int):=by omega
 have ce:(l.take 4096).length=m:=by rw[List.length_take];omega
 have jB:=Hh (And.intro hn (And.intro hm ce));clear hn hm ce EI;go_enter Tryz.func74,Tryz.ntmps74
 go_wp2_with fail
 have e1:(w.alloc zf).heap.size=w.heap.size+1:=by go_simp
 have hT:=(Blk.new w 77 #[.int .i64 0,.int .u64 0,.slice none 0 0,.slice none 0 0]).alloc (.cells #[.slice A m c,.int .i64 0,.int .i64 0] 142);have hB:=Blk.new (w.alloc zf) 142 #[.slice A m c,.int .i64 0,.int .i64 0];have xq:=((Grows.refl hH).alloc zf).alloc (.cells #[.slice A m c,.int .i64 0,.int .i64 0] 142);rw[e1]at hB;have wm:Blk ((w.alloc zf).alloc (.cells #[.slice A m c,.int .i64 0,.int .i64 0] 142)) (w.heap.size+1) 142 #[.slice A m c,.int .i64 0,.int .i64 0]:=hB;have tX:Blk ((w.alloc zf).alloc (.cells #[.slice A m c,.int .i64 0,.int .i64 0] 142)) w.heap.size 77 #[.int .i64 0,.int .u64 0,.slice none 0 0,.slice none 0 0]:=hT;clear hT hB
 generalize (w.alloc zf).alloc (.cells #[.slice A m c,.int .i64 0,.int .i64 0] 142)=w2 at wm xq tX⊢
 have rx:w.heap.size+1<w2.heap.size:=wm.lt;have wg:H w.heap.size=none:=hH.none_of_ge (by omega);have qf:H (w.heap.size+1)=none:=hH.none_of_ge (by omega)
 have Ia:Psr 142 w2 (w.heap.size+1) H A c (l.take 4096) 0 0 :=
  ⟨by obtain⟨_,_,ce⟩:=jB.out;rw[ce];exact wm,hl.take 4096,xq.holds,qf,by omega,by rw[List.length_take];omega,by omega⟩
 have C0:(Calls Tryz.prog 117 #[.pointer (some ⟨w.heap.size+1,0,none⟩),.int .i64 0] w2 (ItemOut 142 w2 H (w.heap.size+1) A c (l.take 4096) 0 (yz l))) :=
  (hI 8 w2 H (w.heap.size+1) A c (l.take 4096) 0 0 0 hTab (by omega) Ia)
 have C:=Hh C0;clear Ia C0
 refine C.out.mono ?_
 rintro e w3 hout
 clear C
 cases hr:yz l with
 | err q =>
  exact jaw
 | ok x k cc =>
 rw[hr,ItemOut,Nat.zero_add]at hout;obtain⟨ja,jb,jc,jd,H',rfl,hd,hi⟩:=hout;have jG:=Hh hr;clear hr;have yE:=tX.rdg hd (by omega);have yA:=xq.trans_but hd.grows (by omega)
 have ug:Blk w3 (w.heap.size+1) 142 #[.slice A m c,.int .i64 (k:Int),.int .i64 (cc:Int)]:=by
  exact jdl
 go_wp2_with (with_reducible refine zx ?_)
 unfold zZ
 obtain⟨VT,hN,wo⟩:=jge;have ss:Blk (w3.alloc zf) (w.heap.size+1) 142 #[.slice A m c,.int .i64 (k:Int),.int .i64 (cc:Int)]:=ug.alloc _;obtain⟨xK,fI,fP,pa⟩:=jgA;clear hN yE ug
 generalize w3.alloc zf=w4 at pa wo xK ss⊢
 refine stI pa fun w5 xG zK=>?_
 have vU:=wo.gr zK (by omega);have rT:=ss.gr zK (by omega);have y8:=xK.grownOwn fI (by omega) zK;clear wo xK pa ss;go_upto_region 5 with fail
 have vU:=vU.drew;have xG:=xG.drew;have rT:=rT.drew;have y8:=y8.drew
 refine zr 7 (fun w'=>w'.cell? ⟨w3.heap.size,0,none⟩=some (.int .i64 x.kind)∧w'.cell? ⟨w3.heap.size,1,none⟩=some (.int .u64 x.n)∧w'.cell? ⟨w3.heap.size,2,none⟩=some (.slice ja x.bytes.length jb)∧w'.cell? ⟨w3.heap.size,3,none⟩=some (.slice jc x.items.length jd)∧w'.cell? ⟨w.heap.size+1,1,none⟩=some (.int .i64 (k:Int))) (by kernel_rfl) (⟨xG.cell 0 rfl,xG.cell 1 rfl,xG.cell 2 rfl,xG.cell 3 rfl,rT.cell 1 rfl⟩) (fun zy=>?_)
 refine Tk 0 rfl zy ?_
 refine Tk 1 rfl zy ?_
 refine Tk 2 rfl zy ?_
 refine Tk 3 rfl zy ?_
 refine Tk 4 rfl zy ?_
 refine To 5 rfl fun K hK=>?_
 refine zT _ _ _ rfl _ _ rfl rfl _ _ vU zj rfl (Lb _ _ _ _ rfl rfl rfl rfl) fun w7 wU xQ=>?_
 have xG:=xG.gr xQ (by omega);have rT:=rT.gr xQ (by omega);have vm:=y8.grownOwn fP (by omega) xQ;go_simp
 refine Ko hK ?_ fun zy=>?_
 ·exact jda
 clear hK K
 refine Tk 6 rfl zy ?_
 refine To 7 rfl fun K hK=>?_
 exact jcd
theorem eY (hI:∀ d,mW d) {H:Snap}(hTab:Tabs H) (w:World) (hH:Holds w H) {A:Option Addr}{n c:Nat}{l:List UInt8}(hn:n=l.length) (hl:IsBytes H A c l) :
  Calls Tryz.prog 54 #[.slice A n c] w (wV w H l):=by
 obtain⟨hT,hG,xO,wg⟩:=jf6;clear hT;have jB:=Hh hn;have C:=fun w1 h1=>Hh (eZ hI hTab w1 h1 hn hl)
 clear hn
 by_cases hbig:4096<n
 ·have b1:decide ((n:Int) > 4096)=true:=by rw[decide_eq_true_eq];omega
  have b2:decide ((4096:Int)<n)=true:=by rw[decide_eq_true_eq];omega
  have hd:xz l=.error 8:=by have:=jB.out;rw[xz,if_pos (by omega)]
  have mM:=Hh hd;clear hd C;go_enter Tryz.func54,Tryz.ntmps54
  exact jen
 have b1:decide ((n:Int) > 4096)=false:=by rw[decide_eq_false_iff_not];omega
 have b2:decide ((4096:Int)<n)=false:=by rw[decide_eq_false_iff_not];omega
 have gj:=Hh hbig;clear hbig;go_enter Tryz.func54,Tryz.ntmps54
 exact jad
theorem Tb:∀ X:Fin 64,bits .and .i64 ((X.val:Nat):Int) 31=((X.val%32:Nat):Int):=by decide
theorem Wy:∀ X:Fin 512,bits .and .i64 ((X.val:Nat):Int) 255=((X.val%256:Nat):Int):=by decide +kernel
theorem KZ {s e:Nat}(hs:s≤1) (he:e<9223372036854775808):bits .or .u64 ((s*9223372036854775808:Nat):Int) (e:Int)=((s*9223372036854775808+e:Nat):Int):=qK s 63 e he (by simp only[Nat.reducePow];omega)
theorem KY {s y m:Nat}(hs:s≤1) (hy:y<2048) (hm:m<4503599627370496):bits .or .u64 ((s*9223372036854775808+y*4503599627370496:Nat):Int) (m:Int)=((s*9223372036854775808+y*4503599627370496+m:Nat):Int):=by
 have h:=qK (s*2048+y) 52 m hm (by simp only[Nat.reducePow];omega);rw[show(s*2048+y)*2 ^ 52=s*9223372036854775808+y*4503599627370496 by simp only[Nat.reducePow];omega]at h
 exact h
theorem nU {S s y m:Nat}{Y:Int}(hS:s*9223372036854775808=S) (hs:s≤1) (hy:y<2048) (hm:m<4503599627370496) (hY:Y=((y*4503599627370496:Nat):Int)) :
  bits .or .u64 (bits .or .u64 (S:Int) Y) (m:Int)=((S+y*4503599627370496+m:Nat):Int):=by
 rw[hY,← hS,KZ hs (by omega),KY hs hy hm]
theorem Vx {m k:Nat}(h0:m≠0) (hk:k=m.log2) (hm:m<8388608):bits .and .u64 (IntKind.u64.wrap ((m:Int)*(2:Int) ^ (52-k))) 4503599627370495=((m*2 ^ (52-k)-4503599627370496:Nat):Int)∧m*2 ^ (52-k)-4503599627370496<4503599627370496:=by
 subst hk;have hl:m.log2≤52:=by have:=(Nat.log2_lt h0).2 (show m<2 ^ 23 by omega);omega
 obtain⟨a,b⟩:=pw (Nat.log2_self_le h0) Nat.lt_log2_self hl;have e:(m:Int)*(2:Int) ^ (52-m.log2)=((m*2 ^ (52-m.log2):Nat):Int):=by rw[Int.natCast_mul,Int.natCast_pow];rfl
 rw[e];obtain⟨F,hF⟩:∃ F,m*2 ^ (52-m.log2)=F:=⟨_,rfl⟩
 rw[hF]at a b⊢;rw[IntWalk.u64_in _ (by omega)];have h:=uO F 52 (by omega) (by omega)
 exact⟨by rw[show(4503599627370495:Int)=((2 ^ 52-1:Nat):Int) from rfl,h];simp only[Nat.reducePow];omega,by omega⟩
theorem Z4 (v:Nat) (hv:v<65536) (w:World) :
  Calls Tryz.prog 186 #[.int .u64 (v:Int),.int .i64 5,.int .i64 10] w fun e w'=>e=.returned (.int .u64 (wt v:Int))∧w'=w:=by
 have A1:bits .and .u64 (v:Int) 1023=((v%1024:Nat):Int):=uO v 10 (by omega) (by omega);obtain⟨u,hu⟩:∃ u,v/1024=u:=⟨_,rfl⟩
 have A2:bits .and .i64 (u:Int) 31=((u%32:Nat):Int):=Tb ⟨u,by omega⟩;have Mw:u%32=v/1024%32:=by rw[hu]
 rw[Mw]at A2;obtain⟨s,hs⟩:∃ s,v/32768=s:=⟨_,rfl⟩
 obtain⟨x,hx⟩:∃ x,v/1024%32=x:=⟨_,rfl⟩
 obtain⟨m,hm⟩:∃ m,v%1024=m:=⟨_,rfl⟩
 have xZ:s≤1:=by omega
 have rl:x≤31:=by omega
 have qq:m<1024:=by omega
 have W:=Hh (show wt v=(if x=31 then s*9223372036854775808+9218868437227405312+m*4398046511104
  else if x=0 then(if m=0 then s*9223372036854775808 else s*9223372036854775808+(999+m.log2)*4503599627370496+(m*2 ^ (52-m.log2)-4503599627370496))
  else s*9223372036854775808+(x+1008)*4503599627370496+m*4398046511104) by rw[wt,hs,hx,hm])
 rw[hm]at A1;rw[hx]at A2;have S1:(v:Int)/32768=(s:Int):=by omega
 have S2:(v:Int)/1024=(u:Int):=by omega
 have K1:IntKind.i64.wrap (u:Int)=(u:Int):=IntWalk.i64_in _ (by omega);have HX:=Hh (And.intro xZ (And.intro rl qq));obtain⟨S,hS⟩:∃ S,s*9223372036854775808=S:=⟨_,rfl⟩
 have KS:IntKind.u64.wrap ((s:Int)*9223372036854775808)=(S:Int):=by rw[IntWalk.u64_in _ (by omega)];omega
 rw[hS]at W;have HS:=Hh hS;have I9:=Hh (show s≤1∧x≤31∧m<1024 from⟨xZ,rl,qq⟩);clear hs hx hm hv hu Mw hS HX
 by_cases WM:x=31
 ·subst WM;obtain⟨M,hM⟩:∃ M,m*4398046511104=M:=⟨_,rfl⟩
  have KM:IntKind.u64.wrap ((m:Int)*4398046511104)=(M:Int):=by rw[IntWalk.u64_in _ (by omega)];omega
  have O2:=jgo;have WW:Hid (wt v=S+2047*4503599627370496+M):=by rw[Hid,W.out,if_pos rfl,hM]
  exact jcv
 have x31:((x:Int)==31)=false:=by simp;omega
 have x31':((x:Int)=31)=False:=eq_false (by omega)
 by_cases h0:x=0
 ·subst h0
  by_cases iM:m=0
  ·subst iM;have WW:Hid (wt v=S):=by rw[Hid,W.out,if_neg (by omega),if_pos rfl,if_pos rfl]
   exact jeV
  have m0:((m:Int)==0)=false:=by simp;omega
  have m0':((m:Int)=0)=False:=eq_false (by omega);have Rg:m.log2≤9:=by have:=(Nat.log2_lt iM).2 (show m<2 ^ 10 by omega);omega
  have WW:Hid (wt v=S+(999+m.log2)*4503599627370496+(m*2 ^ (52-m.log2)-4503599627370496)):=by rw[Hid,W.out,if_neg (by omega),if_pos rfl,if_neg iM]
  have HM:=Hh (And.intro iM (And.intro qq Rg));clear W xZ rl qq iM Rg;go_enter Tryz.func186,Tryz.ntmps186
  go_wp2_with fail
  go_loop [12] (fun v12=>∃ k:Nat,k≤m.log2∧v12=.int .i64 (k:Int)) (fun v12=>m.log2-(intOf v12).toNat)
  case atStart=>exact⟨0,Nat.zero_le _,rfl⟩
  case round =>
  obtain⟨k,hk,rfl⟩:=hrel;have hk9:(k:Int)≤9:=by have:=HM.out.2.2;omega
  have lf:(0:Int)≤(k:Int)+1:=by omega
  have fI:((k:Int)+1).toNat=k+1:=by omega
  have mY:(m:Int)/(2:Int) ^ (k+1)=((m/2 ^ (k+1):Nat):Int):=by rw[Int.natCast_ediv,Int.natCast_pow];rfl
  have HK:=Hh hk;clear hk
  by_cases uh:k<m.log2
  ·exact jbg
  have VP:k=m.log2:=by have:=HK.out;omega
  have ht:¬ ((0:Int)<(m:Int)/(2:Int) ^ (k+1)):=by
   exact jc4
  clear mY;have eC:=Hh VP;clear uh VP;go_wp2_with fail
  go_ret
  obtain⟨B1,B2⟩:=Vx HM.out.1 eC.out (by have:=HM.out.2.1;omega);have O3:=nU (S:=S) (s:=s) (y:=999+k) (Y:=((k:Int)+1-15-10+1023)*4503599627370496) HS.out I9.out.1 (by omega) B2 (by omega);exact jds
 have x0:((x:Int)==0)=false:=by simp;omega
 have x0':((x:Int)=0)=False:=eq_false (by omega);obtain⟨M,hM⟩:∃ M,m*4398046511104=M:=⟨_,rfl⟩
 have KM:IntKind.u64.wrap ((m:Int)*4398046511104)=(M:Int):=by rw[IntWalk.u64_in _ (by omega)];omega
 have O2:Hid (bits .or .u64 (bits .or .u64 (S:Int) (((x:Int)-15+1023)*4503599627370496)) (M:Int)=((S+(x+1008)*4503599627370496+M:Nat):Int)):=nU (s:=s) HS.out xZ (by omega) (by omega) (by omega);have WW:Hid (wt v=S+(x+1008)*4503599627370496+M):=by rw[Hid,W.out,if_neg WM,if_neg h0,hM]
 have d9:(x:Int)≤31:=by omega
 exact jct
theorem Z5 (v:Nat) (hv:v<4294967296) (w:World) :
  Calls Tryz.prog 186 #[.int .u64 (v:Int),.int .i64 8,.int .i64 23] w fun e w'=>e=.returned (.int .u64 (wD v:Int))∧w'=w:=by
 have A1:bits .and .u64 (v:Int) 8388607=((v%8388608:Nat):Int):=uO v 23 (by omega) (by omega);obtain⟨u,hu⟩:∃ u,v/8388608=u:=⟨_,rfl⟩
 have A2:bits .and .i64 (u:Int) 255=((u%256:Nat):Int):=Wy ⟨u,by omega⟩;have Mw:u%256=v/8388608%256:=by rw[hu]
 rw[Mw]at A2;obtain⟨s,hs⟩:∃ s,v/2147483648=s:=⟨_,rfl⟩
 obtain⟨x,hx⟩:∃ x,v/8388608%256=x:=⟨_,rfl⟩
 obtain⟨m,hm⟩:∃ m,v%8388608=m:=⟨_,rfl⟩
 have xZ:s≤1:=by omega
 have rl:x≤255:=by omega
 have qq:m<8388608:=by omega
 have W:=Hh (show wD v=(if x=255 then s*9223372036854775808+9218868437227405312+m*536870912
  else if x=0 then(if m=0 then s*9223372036854775808 else s*9223372036854775808+(874+m.log2)*4503599627370496+(m*2 ^ (52-m.log2)-4503599627370496))
  else s*9223372036854775808+(x+896)*4503599627370496+m*536870912) by rw[wD,hs,hx,hm])
 rw[hm]at A1;rw[hx]at A2;have S1:(v:Int)/2147483648=(s:Int):=by omega
 have S2:(v:Int)/8388608=(u:Int):=by omega
 have K1:IntKind.i64.wrap (u:Int)=(u:Int):=IntWalk.i64_in _ (by omega);have HX:=Hh (And.intro xZ (And.intro rl qq));obtain⟨S,hS⟩:∃ S,s*9223372036854775808=S:=⟨_,rfl⟩
 have KS:IntKind.u64.wrap ((s:Int)*9223372036854775808)=(S:Int):=by rw[IntWalk.u64_in _ (by omega)];omega
 rw[hS]at W;have HS:=Hh hS;have I9:=Hh (show s≤1∧x≤255∧m<8388608 from⟨xZ,rl,qq⟩);clear hs hx hm hv hu Mw hS HX
 by_cases WM:x=255
 ·subst WM;obtain⟨M,hM⟩:∃ M,m*536870912=M:=⟨_,rfl⟩
  have KM:IntKind.u64.wrap ((m:Int)*536870912)=(M:Int):=by rw[IntWalk.u64_in _ (by omega)];omega
  have O2:=jgo;have WW:Hid (wD v=S+2047*4503599627370496+M):=by rw[Hid,W.out,if_pos rfl,hM]
  exact jcv
 have x31:((x:Int)==255)=false:=by simp;omega
 have x31':((x:Int)=255)=False:=eq_false (by omega)
 by_cases h0:x=0
 ·subst h0
  by_cases iM:m=0
  ·subst iM;have WW:Hid (wD v=S):=by rw[Hid,W.out,if_neg (by omega),if_pos rfl,if_pos rfl]
   exact jeV
  have m0:((m:Int)==0)=false:=by simp;omega
  have m0':((m:Int)=0)=False:=eq_false (by omega);have Rg:m.log2≤22:=by have:=(Nat.log2_lt iM).2 (show m<2 ^ 23 by omega);omega
  have WW:Hid (wD v=S+(874+m.log2)*4503599627370496+(m*2 ^ (52-m.log2)-4503599627370496)):=by rw[Hid,W.out,if_neg (by omega),if_pos rfl,if_neg iM]
  have HM:=Hh (And.intro iM (And.intro qq Rg));clear W xZ rl qq iM Rg;go_enter Tryz.func186,Tryz.ntmps186
  go_wp2_with fail
  go_loop [12] (fun v12=>∃ k:Nat,k≤m.log2∧v12=.int .i64 (k:Int)) (fun v12=>m.log2-(intOf v12).toNat)
  case atStart=>exact⟨0,Nat.zero_le _,rfl⟩
  case round =>
  obtain⟨k,hk,rfl⟩:=hrel;have hk9:(k:Int)≤22:=by have:=HM.out.2.2;omega
  have lf:(0:Int)≤(k:Int)+1:=by omega
  have fI:((k:Int)+1).toNat=k+1:=by omega
  have mY:(m:Int)/(2:Int) ^ (k+1)=((m/2 ^ (k+1):Nat):Int):=by rw[Int.natCast_ediv,Int.natCast_pow];rfl
  have HK:=Hh hk;clear hk
  by_cases uh:k<m.log2
  ·exact jbg
  have VP:k=m.log2:=by have:=HK.out;omega
  have ht:¬ ((0:Int)<(m:Int)/(2:Int) ^ (k+1)):=by
   exact jc4
  clear mY;have eC:=Hh VP;clear uh VP;go_wp2_with fail
  go_ret
  obtain⟨B1,B2⟩:=Vx HM.out.1 eC.out (by have:=HM.out.2.1;omega);have O3:=nU (S:=S) (s:=s) (y:=874+k) (Y:=((k:Int)+1-127-23+1023)*4503599627370496) HS.out I9.out.1 (by omega) B2 (by omega);exact jds
 have x0:((x:Int)==0)=false:=by simp;omega
 have x0':((x:Int)=0)=False:=eq_false (by omega);obtain⟨M,hM⟩:∃ M,m*536870912=M:=⟨_,rfl⟩
 have KM:IntKind.u64.wrap ((m:Int)*536870912)=(M:Int):=by rw[IntWalk.u64_in _ (by omega)];omega
 have O2:Hid (bits .or .u64 (bits .or .u64 (S:Int) (((x:Int)-127+1023)*4503599627370496)) (M:Int)=((S+(x+896)*4503599627370496+M:Nat):Int)):=nU (s:=s) HS.out xZ (by omega) (by omega) (by omega);have WW:Hid (wD v=S+(x+896)*4503599627370496+M):=by rw[Hid,W.out,if_neg WM,if_neg h0,hM]
 have d9:(x:Int)≤255:=by omega
 exact jct
theorem gP {w:World}{g:Nat}{H:Snap}{A:Option Addr}{c:Nat}{l:List UInt8}{p cnt:Nat}(hP:Psr 142 w g H A c l p cnt) (z:Nat) (rx:1≤z) (hz8:z≤8) :
  Calls Tryz.prog 151 #[.pointer (some ⟨g,0,none⟩),.int .i64 (z:Int)] w (VV 142 w g A c l p cnt z):=by
 have hB:=hP.blk;have c0:=hB.cell 0 rfl;have c1:=hB.cell 1 rfl;have HP:=Hh hP;have pe:=hP.le;have nZ:=hP.small;have uw:=hP.bytes.le;have mv:=hP.bytes.max;have HZ:=Hh (And.intro rx hz8);have hzi:(z:Int)≤8:=by omega
 have YO:(p:Int)≤(l.length:Int):=by omega
 have B6:(l.length:Int)≤4096:=by omega
 have K0:=jhu
 by_cases z9:l.length<p+z
 ·have z0:(l.length:Int)-(p:Int)<(z:Int):=by omega
  have HL:=Hh z9;clear rx hz8 pe nZ uw mv hP z9;go_enter Tryz.func151,Tryz.ntmps151
  exact jcM
 have z0:¬ ((l.length:Int)-(p:Int)<(z:Int)):=by omega
 have z0b:decide ((l.length:Int)-(p:Int)<(z:Int))=false:=decide_eq_false z0;obtain⟨b,off,rfl,y7⟩:=hP.bytes.at_ (by omega);have HC:=Hh y7;have HH:=Hh hP.holds;have HL:=Hh (And.intro (Nat.not_lt.1 z9) (And.intro nZ uw));clear rx hz8 pe nZ uw mv hP y7 z9;go_enter Tryz.func151,Tryz.ntmps151
 go_wp2_with fail
 go_big_quiet (fail)
 obtain⟨W,hW⟩:∃ W,w.drewN nq=W:=⟨_,rfl⟩
 have JL:Blk W g 142 (ra (some ⟨b,off,none⟩) l.length c p cnt):=hW ▸ hB;have IR:w.grownBy W (some g):=hW ▸ wX (yN w _) _;have FV:Holds W H:=hW ▸ HH.out;rw[hW];clear hW c0 c1 hB K0;go_wp2_with fail
 have E:Hid ((l.drop p).length=l.length-p):=List.length_drop;go_loopw [6,20] (fun v6 v20 wr=>∃ k:Nat,k≤z∧v20=.int .i64 (k:Int)∧v6=.int .u64 (beN ((l.drop p).take k):Int)∧Blk wr g 142 (ra (some ⟨b,off,none⟩) l.length c (p+k) cnt)∧w.grownBy wr (some g)∧Holds wr H) (fun _ v20 _=>z-(intOf v20).toNat)
 case atStart=>exact⟨0,Nat.zero_le _,rfl,rfl,JL,IR,FV⟩
 case round =>
 clear JL IR FV;obtain⟨k,hk,rfl,rfl,JO,oK,pZ⟩:=hrel
 by_cases hkz:k<z
 ·have uh:p+k<l.length:=by have:=HL.out.1;omega
  have CU:(k:Int)<(z:Int):=by omega
  have ru:k<(l.drop p).length:=by have:=E.out;omega
  have q0:=pZ.cell (HC.out (p+k) uh);have ex:(l.drop p)[k]=l[p+k]:=by rw[List.getElem_drop]
  have hX:=jJ (l.drop p) k (by have:=HZ.out;omega);have hS:=ZP (l.drop p) k ru;rw[ex]at hS;obtain⟨X,qS⟩:∃ X,beN ((l.drop p).take k)=X:=⟨_,rfl⟩
  obtain⟨ch,eG⟩:∃ ch,l[p+k]=ch:=⟨_,rfl⟩
  rw[qS]at hX hS⊢;rw[eG]at hS q0;obtain⟨P,Lu⟩:∃ P,p+k=P:=⟨_,rfl⟩
  rw[Lu]at q0 JO uh;have lc:=ch.toNat_lt;have K2:IntKind.u64.wrap ((X:Int)*256)=(X:Int)*256:=by rw[IntKind.wrap_u64];omega
  have K3:=jhE;have HS:=Hh hS;have I4:=Hh Lu;have hPi:(P:Int)<(l.length:Int):=by omega
  have al:(0:Int)≤(P:Int):=by omega
  have K4:IntKind.i64.wrap ((P:Int)+1)=(P:Int)+1:=IntWalk.i64_in _ (by omega);have fQ:(k:Int)+1≤9223372036854775807:=by have:=HZ.out;omega
  have c0:=JO.cell 0 rfl;have c1:=JO.cell 1 rfl;clear hX hS qS eG ex ru Lu uh;go_wp2_with fail
  go_big_quiet (fail)
  obtain⟨W2,S9⟩:∃ W2,wr.drewN nq=W2:=⟨_,rfl⟩
  have wm:Blk W2 g 142 (ra (some ⟨b,off,none⟩) l.length c P cnt):=S9 ▸ JO;have xq:w.grownBy W2 (some g):=S9 ▸ wX oK _;have IU:Holds W2 H:=S9 ▸ pZ;rw[S9];clear S9 c0 c1 JO oK pZ q0;have c1:=wm.cell 1 rfl;go_wp2_with (with_reducible refine zx ?_)
  refine zw rfl _ _ _ rfl rfl g 1 (.int .i64 ((P:Int)+1)) rfl rfl _ _ wm zF (by simp) rfl fun w3 ug yA=>?_
  have xK:=zG xq yA (.inl rfl);have IV:Holds w3 H:=IU.grown yA (by rintro q ⟨⟩;exact HP.out.apart)
  have ss:Blk w3 g 142 (ra (some ⟨b,off,none⟩) l.length c (p+(k+1)) cnt):=by
   have e:((p+(k+1):Nat):Int)=(P:Int)+1:=by have:=I4.out;omega
   rw[ra,e]
   exact ug
  clear ug yA wm xq IU c1 K4;go_wp2_with fail
  go_roundw
  case rel=>exact⟨k+1,by omega,by go_num,by rw[HS.out,Int.natCast_add,Int.natCast_mul];rfl,ss,xK,IV⟩
  case measure=>simp[intOf];omega
 have kX:k=z:=by omega
 subst kX;have rj:¬ ((k:Int)<(k:Int)):=by omega
 obtain⟨X,qS⟩:∃ X,beN ((l.drop p).take k)=X:=⟨_,rfl⟩
 rw[qS];have HX:=Hh qS;clear qS;go_wp2_with fail
 go_ret2
 exact .inr ⟨HL.out.1,by rw[HX.out];rfl,JO,oK⟩
end Go.Proofs.YtkmlnjociijpgaaGreatDoor
