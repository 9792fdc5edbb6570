/- squeezed. SHA-256: the padding. Rows of elem -/
import Derived.Test.YtliomcphdnppnaaGreatDoorK12
import Derived.KernelRfl
set_option linter.unusedVariables false
set_option linter.unusedSimpArgs false
set_option maxRecDepth 100000
set_option maxHeartbeats 6400000
namespace Go.Proofs.YtliomcphdnppnaaGreatDoor
open Go.RowKit
theorem jay{P:Prop}(h:P:=by
 go_wp2_with fail
 go_ret
 exact⟨rfl,rfl⟩):P:=h
theorem jbc{P:Prop}(h:P:=by
 have:=HM.out;rw[Hid,List.length_append,wI,List.length_take,tH]
 omega):P:=h
theorem jcW{P:Prop}(h:P:=by
 go_wp2_with fail
 go_ret
 exact⟨_,rfl,by have h:=hO.form;obtain⟨_,_,e,_⟩:=h;exact⟨hO,hb⟩⟩):P:=h
theorem jd5{P:Prop}(h:P:=by
 go_enter Tryz.func129,Tryz.ntmps129
 go_wp2_with fail
 refine R.out.mono ?_
 rintro e w1 ⟨rfl,rfl⟩
 exact jay):P:=h
theorem jeh{P:Prop}(h:P:=by
 go_enter Tryz.func164,Tryz.ntmps164
 exact jay):P:=h
theorem jfe{P:Prop}(h:P:=by have xS:=zY zB xv (fun q hq=>(hO.lt q hq).1);exact xS):P:=h
def iZ:Value→Nat
 | .slice _ m _=>m
 | _=>0
theorem tv (N s:Nat) (d:Int) (hd:d=((2 ^ s:Nat):Int)):zm (wO N s)=.int .u8 ((N:Int)/d%256):=by
 subst hd;rw[zm,wO,UInt8.toNat_ofNat'];rfl
def vJ (l:List UInt8) (z:Nat):List UInt8:=l++[128]++List.replicate z 0
theorem Xw (l:List UInt8) (z:Nat):vJ l z++[0]=vJ l (z+1):=by
 rw[vJ,vJ,List.replicate_succ',List.append_assoc]
theorem wI (l:List UInt8) (z:Nat):(vJ l z).length=l.length+1+z:=by simp[vJ];omega
theorem Sb (N k:Nat) (h:k<8):(qf N).take k++[(qf N).getD k 0]=(qf N).take (k+1):=by
 obtain rfl | rfl | rfl | rfl | rfl | rfl | rfl | rfl:k=0∨k=1∨k=2∨k=3∨k=4∨k=5∨k=6∨k=7:=by omega
 all_goals rfl
theorem Vb {A:Option Addr}{c:Nat}{l:List UInt8}{n:Nat}(hn:n=l.length) (iX:l.length≤1099511627) (w:World) (hS:Src w A (l.map zm)) :
  Calls Tryz.prog 102 #[.slice A n c,.int .i64 64,.int .i64 8] w fun e w'=>∃ r,e=.returned r∧Fresh w (oB l) r w':=by
 obtain⟨i0,tV,kA,rE,oz⟩:=info_parts fa;have HN:=Hh (And.intro hn iX);obtain⟨n2,tF⟩:∃ n2,n+128=n2:=⟨_,rfl⟩
 have sW:IntKind.i64.wrap ((n:Int)+128)=(n2:Int):=by rw[← tF,Int.natCast_add];exact IntWalk.i64_in _ (by omega)
 have dC:=Hh tF;obtain⟨N,hN⟩:∃ N,I0 l.length=N:=⟨_,rfl⟩
 have pj:IntKind.u64.wrap ((n:Int))=(n:Int):=IntWalk.u64_in _ (by omega);have EX:IntKind.u64.wrap ((n:Int)*8)=(N:Int):=by rw[← hN,I0,IntKind.wrap_u64,hn];omega
 have jv:=Hh hN;clear tF hn iX hN;go_enter Tryz.func102,Tryz.ntmps102
 go_wp2_with (at_make;refine zH ?_)
 refine wpList_make_own w rfl _ _ 23 rfl w.heap.size 5 i0 _ 1 Tryz.underlying23 tV kA rE .i64 .i64 (n2:Int) n2 rfl rfl rfl (by rw[oz];have:=HN.out;have:=dC.out;omega) (by have:=HN.out;have:=dC.out;simp only[maxLen];omega) (Nat.le_refl _) fun w1 uQ Id=>?_
 have hO:OwnB w1 w.heap.size (.slice (some ⟨w.heap.size,0,none⟩) 0 n2) []:=uQ;have zB:=xe Id;have Mc:=hS.below zB;clear uQ Id tV kA rE oz hS sW;go_wp2_with (at_builtin;refine zH ?_)
 refine zg rfl (.tmp 15) (.tmp 16) rfl w.heap.size _ [] rfl hO A n c l rfl HN.out.1 Mc (by have:=HN.out.2;simp;omega) zB.size fun v' w2 ob sv hat2=>?_
 rw[List.nil_append]at ob;have zG:=zY zB sv (fun q hq=>(hO.lt q hq).1);have l8:=ob.alloc (.cells #[.int .u8 128] 5);have xj:=zG.alloc zG.size (.cells #[.int .u8 128] 5);clear hO zB Mc sv hat2;go_wp2_with (at_builtin;refine zH ?_)
 refine zg rfl (.tmp 17) (.tmp 18) rfl w.heap.size _ l rfl l8 _ 1 _ [128] rfl rfl (Src.new _ _ _ _ rfl _ rfl) (by have:=HN.out.2;simp;omega) xj.size fun v3 w3 pU ph hat3=>?_
 have uR:=zY xj ph (fun q hq=>(ob.lt q hq).1);replace pU:OwnB w3 w.heap.size v3 (vJ l 0):=by rw[vJ];simpa using pU
 obtain⟨A3,c3,rfl,_⟩:=pU.form;rw[wI]at pU⊢;clear ob l8 zG xj ph hat3;go_wp2_with fail
 go_loopw [7] (fun v7 wr=>∃ (z m:Nat) (VA:Option Addr) (vc:Nat),v7=.slice VA m vc∧Hid (m=l.length+1+z)∧Hid (z≤jt l.length)∧OwnB wr w.heap.size (.slice VA m vc) (vJ l z)∧Below w.heap.size w wr) (fun v7 _=>l.length+65-iZ v7)
 case atStart=>exact⟨0,_,A3,c3,rfl,rfl,Nat.zero_le _,pU,uR⟩
 case round =>
 clear pU uR;obtain⟨z,m,VA,vc,rfl,HM,HZ,hO,hb⟩:=hrel;have HB:=Hh (KY l.length);obtain⟨m8,Ig⟩:∃ m8,m+8=m8:=⟨_,rfl⟩
 have JY:IntKind.i64.wrap ((m:Int)+8)=(m8:Int):=by rw[← Ig,Int.natCast_add];exact IntWalk.i64_in _ (by have:=HM.out;have:=HZ.out;have:=HB.out;have:=HN.out;omega)
 have Ef:=Hh Ig;clear Ig;obtain⟨r,hr⟩:∃ r,m8%64=r:=⟨_,rfl⟩
 have Im:(m8:Int).tmod 64=(r:Int):=by rw[← hr];exact(Int.ofNat_tmod m8 64).symm
 have EJ:(m8:Int)%64=(r:Int):=by rw[← hr];omega
 have HR:=Hh hr;clear hr
 by_cases h0:r=0
 ·subst h0;have Sw:Hid (z=jt l.length):=Rg HZ.out (by have:=HR.out;have:=Ef.out;have:=HM.out;omega);go_wp2_with fail
  go_loopw [7,9] (fun v7 v9 wx=>∃ (k mm:Nat) (VB:Option Addr) (vb:Nat),v7=.slice VB mm vb∧v9=.int .i64 (56-8*(k:Int))∧k≤8∧Hid (mm=m+k)∧OwnB wx w.heap.size (.slice VB mm vb) (vJ l z++(qf N).take k)∧Below w.heap.size w wx) (fun v7 _ _=>m+8-iZ v7)
  case atStart=>exact⟨0,m,VA,vc,rfl,rfl,by omega,rfl,by simpa using hO,hb⟩
  case round =>
  clear hO hb;obtain⟨k,mm,VB,vb,rfl,rfl,hk,oZ,hO,hb⟩:=hrel
  have pH:Hid ((vJ l z++(qf N).take k).length≤1099511627700):=by
   have:=HM.out;have:=oZ.out;have:=HN.out;have:=HZ.out;have:=HB.out
   rw[Hid,List.length_append,wI,List.length_take,tH]
   omega
  have HT:=Hh (fun h=>Sb N k h)
  rcases(show k=0∨k=1∨k=2∨k=3∨k=4∨k=5∨k=6∨k=7∨k=8 by omega) with rfl | rfl | rfl | rfl | rfl | rfl | rfl | rfl | rfl
  ·go_wp2_with (at_builtin;refine zH ?_)
   unfold zC
   have uQ:=hO.alloc (.cells #[.int .u8 ((N:Int)/72057594037927936%256)] 5);have zB:=hb.alloc hb.size (.cells #[.int .u8 ((N:Int)/72057594037927936%256)] 5)
   refine zg rfl (.tmp 40) (.tmp 46) rfl w.heap.size _ _ rfl uQ _ 1 _ [wO N 56] rfl rfl (Src.new _ _ _ _ rfl _ (by simp only[List.map_cons,List.map_nil];rw[tv N 56 72057594037927936 rfl])) (by have:=pH.out;simp only[List.length_singleton];omega) zB.size fun v' w5 wg xv vP=>?_
   have xS:=jfe;rw[List.append_assoc,show [wO N 56]=[(qf N).getD 0 0] from rfl,HT.out (by omega)]at wg;obtain⟨A5,c5,rfl,_⟩:=wg.form
   have dK:Hid ((vJ l z++(qf N).take (0+1)).length=m+1):=by
    exact jbc
   rw[dK.out]at wg⊢;clear hO hb uQ zB xv vP;go_wp2_with fail
   go_roundw
   case rel=>exact⟨1,m+1,A5,c5,rfl,by go_num,by omega,rfl,wg,xS⟩
   case measure=>have:=oZ.out;simp only[iZ];omega
  ·go_wp2_with (at_builtin;refine zH ?_)
   unfold zC
   have uQ:=hO.alloc (.cells #[.int .u8 ((N:Int)/281474976710656%256)] 5);have zB:=hb.alloc hb.size (.cells #[.int .u8 ((N:Int)/281474976710656%256)] 5)
   refine zg rfl (.tmp 40) (.tmp 46) rfl w.heap.size _ _ rfl uQ _ 1 _ [wO N 48] rfl rfl (Src.new _ _ _ _ rfl _ (by simp only[List.map_cons,List.map_nil];rw[tv N 48 281474976710656 rfl])) (by have:=pH.out;simp only[List.length_singleton];omega) zB.size fun v' w5 wg xv vP=>?_
   have xS:=jfe;rw[List.append_assoc,show [wO N 48]=[(qf N).getD 1 0] from rfl,HT.out (by omega)]at wg;obtain⟨A5,c5,rfl,_⟩:=wg.form
   have dK:Hid ((vJ l z++(qf N).take (1+1)).length=m+2):=by
    exact jbc
   rw[dK.out]at wg⊢;clear hO hb uQ zB xv vP;go_wp2_with fail
   go_roundw
   case rel=>exact⟨2,m+2,A5,c5,rfl,by go_num,by omega,rfl,wg,xS⟩
   case measure=>have:=oZ.out;simp only[iZ];omega
  ·go_wp2_with (at_builtin;refine zH ?_)
   unfold zC
   have uQ:=hO.alloc (.cells #[.int .u8 ((N:Int)/1099511627776%256)] 5);have zB:=hb.alloc hb.size (.cells #[.int .u8 ((N:Int)/1099511627776%256)] 5)
   refine zg rfl (.tmp 40) (.tmp 46) rfl w.heap.size _ _ rfl uQ _ 1 _ [wO N 40] rfl rfl (Src.new _ _ _ _ rfl _ (by simp only[List.map_cons,List.map_nil];rw[tv N 40 1099511627776 rfl])) (by have:=pH.out;simp only[List.length_singleton];omega) zB.size fun v' w5 wg xv vP=>?_
   have xS:=jfe;rw[List.append_assoc,show [wO N 40]=[(qf N).getD 2 0] from rfl,HT.out (by omega)]at wg;obtain⟨A5,c5,rfl,_⟩:=wg.form
   have dK:Hid ((vJ l z++(qf N).take (2+1)).length=m+3):=by
    exact jbc
   rw[dK.out]at wg⊢;clear hO hb uQ zB xv vP;go_wp2_with fail
   go_roundw
   case rel=>exact⟨3,m+3,A5,c5,rfl,by go_num,by omega,rfl,wg,xS⟩
   case measure=>have:=oZ.out;simp only[iZ];omega
  ·go_wp2_with (at_builtin;refine zH ?_)
   unfold zC
   have uQ:=hO.alloc (.cells #[.int .u8 ((N:Int)/4294967296%256)] 5);have zB:=hb.alloc hb.size (.cells #[.int .u8 ((N:Int)/4294967296%256)] 5)
   refine zg rfl (.tmp 40) (.tmp 46) rfl w.heap.size _ _ rfl uQ _ 1 _ [wO N 32] rfl rfl (Src.new _ _ _ _ rfl _ (by simp only[List.map_cons,List.map_nil];rw[tv N 32 4294967296 rfl])) (by have:=pH.out;simp only[List.length_singleton];omega) zB.size fun v' w5 wg xv vP=>?_
   have xS:=jfe;rw[List.append_assoc,show [wO N 32]=[(qf N).getD 3 0] from rfl,HT.out (by omega)]at wg;obtain⟨A5,c5,rfl,_⟩:=wg.form
   have dK:Hid ((vJ l z++(qf N).take (3+1)).length=m+4):=by
    exact jbc
   rw[dK.out]at wg⊢;clear hO hb uQ zB xv vP;go_wp2_with fail
   go_roundw
   case rel=>exact⟨4,m+4,A5,c5,rfl,by go_num,by omega,rfl,wg,xS⟩
   case measure=>have:=oZ.out;simp only[iZ];omega
  ·go_wp2_with (at_builtin;refine zH ?_)
   unfold zC
   have uQ:=hO.alloc (.cells #[.int .u8 ((N:Int)/16777216%256)] 5);have zB:=hb.alloc hb.size (.cells #[.int .u8 ((N:Int)/16777216%256)] 5)
   refine zg rfl (.tmp 40) (.tmp 46) rfl w.heap.size _ _ rfl uQ _ 1 _ [wO N 24] rfl rfl (Src.new _ _ _ _ rfl _ (by simp only[List.map_cons,List.map_nil];rw[tv N 24 16777216 rfl])) (by have:=pH.out;simp only[List.length_singleton];omega) zB.size fun v' w5 wg xv vP=>?_
   have xS:=jfe;rw[List.append_assoc,show [wO N 24]=[(qf N).getD 4 0] from rfl,HT.out (by omega)]at wg;obtain⟨A5,c5,rfl,_⟩:=wg.form
   have dK:Hid ((vJ l z++(qf N).take (4+1)).length=m+5):=by
    exact jbc
   rw[dK.out]at wg⊢;clear hO hb uQ zB xv vP;go_wp2_with fail
   go_roundw
   case rel=>exact⟨5,m+5,A5,c5,rfl,by go_num,by omega,rfl,wg,xS⟩
   case measure=>have:=oZ.out;simp only[iZ];omega
  ·go_wp2_with (at_builtin;refine zH ?_)
   unfold zC
   have uQ:=hO.alloc (.cells #[.int .u8 ((N:Int)/65536%256)] 5);have zB:=hb.alloc hb.size (.cells #[.int .u8 ((N:Int)/65536%256)] 5)
   refine zg rfl (.tmp 40) (.tmp 46) rfl w.heap.size _ _ rfl uQ _ 1 _ [wO N 16] rfl rfl (Src.new _ _ _ _ rfl _ (by simp only[List.map_cons,List.map_nil];rw[tv N 16 65536 rfl])) (by have:=pH.out;simp only[List.length_singleton];omega) zB.size fun v' w5 wg xv vP=>?_
   have xS:=jfe;rw[List.append_assoc,show [wO N 16]=[(qf N).getD 5 0] from rfl,HT.out (by omega)]at wg;obtain⟨A5,c5,rfl,_⟩:=wg.form
   have dK:Hid ((vJ l z++(qf N).take (5+1)).length=m+6):=by
    exact jbc
   rw[dK.out]at wg⊢;clear hO hb uQ zB xv vP;go_wp2_with fail
   go_roundw
   case rel=>exact⟨6,m+6,A5,c5,rfl,by go_num,by omega,rfl,wg,xS⟩
   case measure=>have:=oZ.out;simp only[iZ];omega
  ·go_wp2_with (at_builtin;refine zH ?_)
   unfold zC
   have uQ:=hO.alloc (.cells #[.int .u8 ((N:Int)/256%256)] 5);have zB:=hb.alloc hb.size (.cells #[.int .u8 ((N:Int)/256%256)] 5)
   refine zg rfl (.tmp 40) (.tmp 46) rfl w.heap.size _ _ rfl uQ _ 1 _ [wO N 8] rfl rfl (Src.new _ _ _ _ rfl _ (by simp only[List.map_cons,List.map_nil];rw[tv N 8 256 rfl])) (by have:=pH.out;simp only[List.length_singleton];omega) zB.size fun v' w5 wg xv vP=>?_
   have xS:=jfe;rw[List.append_assoc,show [wO N 8]=[(qf N).getD 6 0] from rfl,HT.out (by omega)]at wg;obtain⟨A5,c5,rfl,_⟩:=wg.form
   have dK:Hid ((vJ l z++(qf N).take (6+1)).length=m+7):=by
    exact jbc
   rw[dK.out]at wg⊢;clear hO hb uQ zB xv vP;go_wp2_with fail
   go_roundw
   case rel=>exact⟨7,m+7,A5,c5,rfl,by go_num,by omega,rfl,wg,xS⟩
   case measure=>have:=oZ.out;simp only[iZ];omega
  ·go_wp2_with (at_builtin;refine zH ?_)
   unfold zC
   have uQ:=hO.alloc (.cells #[.int .u8 ((N:Int)%256)] 5);have zB:=hb.alloc hb.size (.cells #[.int .u8 ((N:Int)%256)] 5)
   refine zg rfl (.tmp 40) (.tmp 46) rfl w.heap.size _ _ rfl uQ _ 1 _ [wO N 0] rfl rfl (Src.new _ _ _ _ rfl _ (by simp only[List.map_cons,List.map_nil];rw[tv N 0 1 rfl];simp)) (by have:=pH.out;simp only[List.length_singleton];omega) zB.size fun v' w5 wg xv vP=>?_
   have xS:=jfe;rw[List.append_assoc,show [wO N 0]=[(qf N).getD 7 0] from rfl,HT.out (by omega)]at wg;obtain⟨A5,c5,rfl,_⟩:=wg.form
   have dK:Hid ((vJ l z++(qf N).take (7+1)).length=m+8):=by
    exact jbc
   rw[dK.out]at wg⊢;clear hO hb uQ zB xv vP;go_wp2_with fail
   go_roundw
   case rel=>exact⟨8,m+8,A5,c5,rfl,by go_num,by omega,rfl,wg,xS⟩
   case measure=>have:=oZ.out;simp only[iZ];omega
  have hp:vJ l z++(qf N).take 8=oB l:=by
   rw[vJ,Sw.out,← jv.out];rfl
  rw[hp]at hO;exact jcW
 have hz:Hid (z+1≤jt l.length):=KX HZ.out (by have:=HR.out;have:=Ef.out;have:=HM.out;omega);have uQ:=hO.alloc (.cells #[.int .u8 0] 5);have zB:=hb.alloc hb.size (.cells #[.int .u8 0] 5);go_wp2_with (at_builtin;refine zH ?_)
 refine zg rfl (.tmp 27) (.tmp 28) rfl w.heap.size _ _ rfl uQ _ 1 _ [0] rfl rfl (Src.new _ _ _ _ rfl _ rfl) (by rw[wI];have:=HN.out.2;have:=HB.out;have:=hz.out;simp only[List.length_singleton];omega) zB.size fun v' w5 wg xv vP=>?_
 have xS:=jfe;rw[Xw]at wg;obtain⟨A5,c5,rfl,_⟩:=wg.form;rw[wI]at wg⊢;clear hO hb uQ zB xv vP;go_wp2_with fail
 go_roundw
 case rel=>exact⟨z+1,_,A5,c5,rfl,rfl,hz,wg,xS⟩
 case measure=>have:=HM.out;have:=HB.out;have:=hz.out;simp only[iZ];omega
structure Lie (α:Type) where
 k:Nat
 pos:0<k
 E:Snap→α→List Value→Prop
 len:∀ {H x c},E H x c→c.length=k
 one:∀ {H x c},E H x c→∀ u∈c,u.oneCell'=true
 mono:∀ {H K x c},H.le K→E H x c→E K x c
section
variable {α:Type} {L:Lie α}
def RowC (L:Lie α) (H:Snap):List Value→List α→Prop
 | cs,[]=>cs=[]
 | cs,x::l=>∃ c rest,cs=c++rest∧L.E H x c∧RowC L H rest l
theorem RowC.nil (L:Lie α) (H:Snap):RowC L H [] []:=by rw[RowC]
theorem RowC.len {H:Snap}:∀ {l:List α}{cs:List Value},RowC L H cs l→cs.length=l.length*L.k
 | [],cs,h=>by rw[RowC]at h;subst h;simp
 | x::l,cs,h=>by
  obtain⟨c,rest,rfl,hx,hr⟩:=h;rw[List.length_append,L.len hx,hr.len,List.length_cons,Nat.succ_mul,Nat.add_comm]
theorem RowC.mono {H K:Snap}(hl:H.le K):∀ {l:List α}{cs:List Value},RowC L H cs l→RowC L K cs l
 | [],cs,h=>h
 | x::l,cs,h=>by
  obtain⟨c,rest,e,hx,hr⟩:=h
  exact⟨c,rest,e,L.mono hl hx,hr.mono hl⟩
theorem RowC.one {H:Snap}{x:α}{c:List Value}(h:L.E H x c):RowC L H c [x]:=⟨c,[],by simp,h,RowC.nil L H⟩
theorem RowC.app {H:Snap}:∀ {l m:List α}{cs ds:List Value},RowC L H cs l→RowC L H ds m→RowC L H (cs++ds) (l++m)
 | [],m,cs,ds,h,hd=>by rw[RowC]at h;subst h;exact hd
 | x::l,m,cs,ds,h,hd=>by
  obtain⟨c,rest,rfl,hx,hr⟩:=h
  exact⟨c,rest++ds,by simp,hx,hr.app hd⟩
theorem RowC.oneCell {H:Snap}:∀ {l:List α}{cs:List Value},RowC L H cs l→∀ u∈cs,u.oneCell'=true
 | [],cs,h=>by rw[RowC]at h;subst h;simp
 | x::l,cs,h=>by
  obtain⟨c,rest,rfl,hx,hr⟩:=h
  intro u hu
  rw[List.mem_append]at hu
  rcases hu with hu | hu
  ·exact L.one hx u hu
  exact hr.oneCell u hu
theorem RowC.get {H:Snap}:∀ {l:List α}{cs:List Value},RowC L H cs l→∀ (j:Nat) (hj:j<l.length),∃ c,L.E H l[j] c∧∀ i v,c[i]? = some v→cs[j*L.k+i]? = some v
 | [],_,_,j,hj=>by simp at hj
 | x::l,cs,h,0,_=>by
  obtain⟨c,rest,rfl,hx,hr⟩:=h
  refine⟨c,hx,fun i v hi=>?_⟩
  rw[Nat.zero_mul,Nat.zero_add,List.getElem?_append_left (List.getElem?_eq_some_iff.1 hi).1]
  exact hi
 | x::l,cs,h,j+1,hj=>by
  obtain⟨c,rest,rfl,hx,hr⟩:=h;obtain⟨c',hc',hi'⟩:=hr.get j (by simpa using hj)
  refine⟨c',by simpa using hc',fun i v hi=>?_⟩
  have:=hi' i v hi;rw[List.getElem?_append_right (by rw[L.len hx,Nat.succ_mul];omega),L.len hx,show(j+1)*L.k+i-L.k=j*L.k+i by rw[Nat.succ_mul];omega]
  exact this
structure IsRow (L:Lie α) (H:Snap) (A:Option Addr) (c:Nat) (l:List α):Prop where
 le:l.length≤c
 max:c≤9223372036854775807
 row:0<l.length→∃ b off cs,A=some ⟨b,off,none⟩∧RowC L H cs l∧Yl H b off cs
theorem IsRow.at_ {H:Snap}{A:Option Addr}{c:Nat}{l:List α}(h:IsRow L H A c l) (h0:0<l.length):∃ b off,A=some ⟨b,off,none⟩∧∀ j (hj:j<l.length),∃ d,L.E H l[j] d∧∀ i v,d[i]? = some v→H.cell? ⟨b,off+(j*L.k+i),none⟩=some v:=by
 obtain⟨b,off,cs,e,h1,h2⟩:=h.row h0
 refine⟨b,off,e,fun j hj=>?_⟩
 obtain⟨d,hd,hi⟩:=h1.get j hj
 exact⟨d,hd,fun i v hv=>h2 _ _ (hi i v hv)⟩
def OwnX (L:Lie α) (t:TypeId) (w:World) (base:Nat) (v:Value) (H:Snap) (l:List α):Prop:=∃ cs,RowC L H cs l∧w.ownsRow base t L.k v l.length cs
variable {t:TypeId} {w w':World} {base:Nat} {v:Value} {H:Snap} {l:List α}
theorem OwnX.nil (L:Lie α) (t:TypeId) (w:World) (base:Nat) (H:Snap):OwnX L t w base (.slice none 0 0) H []:=⟨[],RowC.nil L H,World.ownsRow_nil _ _ _ _⟩
theorem OwnX.lt (h:OwnX L t w base v H l):∀ k,v.ownBlock=some k→base≤k∧k<w.heap.size:=by obtain⟨_,_,h⟩:=h;exact World.ownsRow.lt h
theorem OwnX.kept {row:Option Nat}(h:OwnX L t w base v H l) (hg:w.grownBy w' row) (vl:v.ownBlock=none∨v.ownBlock≠row):OwnX L t w' base v H l:=by
 exact jdB
theorem OwnX.below (h:OwnX L t w base v H l) (hb:Below w.heap.size w w'):OwnX L t w' base v H l:=by
 exact jcK
theorem OwnX.alloc (h:OwnX L t w base v H l) (o:Obj):OwnX L t (w.alloc o) base v H l:=h.below (zo w o)
theorem OwnX.mono {K:Snap}(h:OwnX L t w base v H l) (hl:H.le K):OwnX L t w base v K l:=by obtain⟨cs,hc,h⟩:=h;exact⟨cs,hc.mono hl,h⟩
theorem OwnX.form (h:OwnX L t w base v H l):∃ A c,v=.slice A l.length c∧l.length≤c∧c≤9223372036854775807:=by
 exact jb1
theorem OwnX.snap {A:Option Addr}{m c:Nat}(h:OwnX L t w base (.slice A m c) H l) (hw:Holds w H) (hn:∀ g,A.map (·.block)=some g→H g=none) :
  ∃ H',H.le H'∧Holds w H'∧(∀ b o,H' b=some o→H b=some o∨A.map (·.block)=some b)∧m=l.length∧IsRow L H' A c l:=by
 obtain⟨cs,oq,h⟩:=h
 rcases h.2 with ⟨hv,hz⟩ | ⟨g,cap,cur,hv,_,hg,hc,hm,hcz,ht⟩
 ·cases hv
  exact⟨H,Snap.le.refl _,hw,fun _ _ h=>.inl h,hz.symm,⟨by omega,by omega,by omega⟩⟩
 cases hv
 have gm:H g=none:=hn g rfl
 refine⟨H.with g (.cells cur t),Snap.le_with gm,hw.with hg,fun b o hb=>?_,rfl,hc,by simpa [maxLen] using hm,fun _=>⟨g,0,cs,rfl,oq.mono (Snap.le_with gm),fun j v hj=>?_⟩⟩
 ·exact jco
 exact jbU
theorem OwnX.at_ {A:Option Addr}{m c:Nat}(h:OwnX L t w base (.slice A m c) H l) (j:Nat) (hj:j<l.length):∃ g,A=some ⟨g,0,none⟩∧∃ d,L.E H l[j] d∧∀ i v,d[i]? = some v→w.cell? ⟨g,j*L.k+i,none⟩=some v:=by
 obtain⟨cs,oq,h⟩:=h
 rcases h.2 with ⟨hv,hz⟩ | ⟨g,cap,cur,hv,_,hg,hc,hm,hcz,ht⟩
 ·omega
 cases hv
 obtain⟨d,hd,hi⟩:=oq.get j hj
 refine⟨g,rfl,d,hd,fun i v hv=>?_⟩
 have hx:=hi i v hv;rw[← ht,List.getElem?_take]at hx
 split at hx
 ·exact(cell_of_row w g _ cur t (0,0) hg).trans (by simpa using hx)
 cases hx
theorem OwnX.append {ops:Array Oper}{rest:List Oper}{o:Oper}{a:Act}{Q:Exit→Act→World→Prop}(hgd:o.guard=none) (s x:Operand) (T:TypeId)
  (ho:o.op=.call { callee:=.builtin .append,args:=#[s,x],argTypes:=#[T,T] }) (hT:Tryz.prog.underlying T=some (.slice t)) {z:Value} {bytes:Nat} (Mn:z.cells.size=L.k) (Wv:bytes≤128)
  (hinfo:(Tryz.prog.info? t).map (fun i=>(i.zero,i.size,i.bytes))=some (some z,L.k,bytes))
  (hs:a.eval s=v) (xH:OwnX L t w base v H l) (A:Option Addr) (m c:Nat) (cs:List Value) (news:List α) (hx:a.eval x=.slice A m c) (hm:m=news.length)
  (hn:RowC L H cs news) (hr:Src w A cs) (wn:l.length+news.length≤1099511627776) (hbase:base≤w.heap.size)
  (h:∀ v' w',OwnX L t w' base v' H (l++news)→w.grownBy w' v.ownBlock→At0 w v.ownBlock v'.ownBlock→wpList Tryz.prog ops Q rest (a.put o.dst v') w') :
  wpList Tryz.prog ops Q (o::rest) a w:=by
 subst hm;obtain⟨xs,QD,xH⟩:=xH;obtain⟨i0,tV,kA,rE,oz⟩:=info_parts hinfo
 refine wpList_plain hgd fun K hK=>vD s x _ ho base t i0 _ L.k bytes hT tV kA rE oz Mn L.pos v l.length xs hs xH A news.length c cs hx hn.len hr hn.oneCell
  (by simp only[maxLen];omega) (by have:=Nat.mul_le_mul wn Wv;omega) hbase fun v' w' h2 h3 h4=>hK _ _ (h v' w' ?_ h3 ?_)
 ·exact jcy
 exact jbj
end
end Go.Proofs.YtliomcphdnppnaaGreatDoor
namespace Go.Proofs.YtliomcphdnppnaaGreatDoor
def num:List Nat→Nat
 | []=>0
 | x::l=>x+18446744073709551616*num l
def W64 (l:List Nat):Prop:=∀ x∈l,x<18446744073709551616
def va (x:Nat):List Nat→List Nat→Nat→List Nat
 | y::ys,z::zs,c=>(z+x*y+c)%18446744073709551616::va x ys zs ((z+x*y+c)/18446744073709551616)
 | _,_,_=>[]
theorem dy (x:Nat):∀ (ys zs:List Nat) (c:Nat),zs.length≤ys.length→(va x ys zs c).length=zs.length
 | _,[],_,_=>by simp[va]
 | [],z::zs,_,h=>by simp at h
 | y::ys,z::zs,c,h=>by simp[va,dy x ys zs _ (by simpa using h)]
theorem YT (x:Nat):∀ (ys zs:List Nat) (c:Nat),W64 (va x ys zs c)
 | _,[],_=>by simp[va,W64]
 | [],z::zs,_=>by simp[va,W64]
 | y::ys,z::zs,c=>by
  intro a ha
  simp only[va,List.mem_cons]at ha
  rcases ha with rfl | ha
  ·exact Nat.mod_lt _ (by decide)
  exact YT x ys zs _ a ha
theorem dz (x:Nat):∀ (ys zs:List Nat) (c:Nat),zs.length≤ys.length→
  num (va x ys zs c)%18446744073709551616 ^ zs.length=(num zs+x*num ys+c)%18446744073709551616 ^ zs.length
 | _,[],_,_=>by simp[Nat.mod_one]
 | [],z::zs,_,h=>by simp at h
 | y::ys,z::zs,c,h=>by
  have ih:=dz x ys zs ((z+x*y+c)/18446744073709551616) (by simpa using h)
  simp only[va,num,List.length_cons,Nat.pow_succ]
  generalize hD:(18446744073709551616:Nat)=D at *
  generalize hP:D ^ zs.length=P at *
  have Ex:0<D:=by omega
  have e:z+D*num zs+x*(y+D*num ys)+c=(z+x*y+c)%D+D*(num zs+x*num ys+(z+x*y+c)/D):=by
   have:=Nat.mod_add_div (z+x*y+c) D;have e2:x*(y+D*num ys)=x*y+D*(x*num ys):=by rw[Nat.mul_add,Nat.mul_left_comm]
   rw[e2,Nat.mul_add,Nat.mul_add]
   omega
  rw[e,Nat.mul_comm P D,Nat.mod_mul,Nat.mod_mul];have yu:(z+x*y+c)%D<D:=Nat.mod_lt _ Ex
  generalize (z+x*y+c)%D=r at *
  rw[Nat.add_mul_mod_self_left,Nat.add_mul_mod_self_left,Nat.mod_eq_of_lt yu,Nat.add_mul_div_left _ _ Ex,Nat.add_mul_div_left _ _ Ex,Nat.div_eq_of_lt yu,Nat.zero_add,Nat.zero_add,ih]
theorem Oe:∀ {l:List Nat},W64 l→num l<18446744073709551616 ^ l.length
 | [],_=>by simp[num]
 | x::l,h=>by
  have h1:x<18446744073709551616:=h x (by simp);have h2:=Oe (l:=l) (fun a ha=>h a (by simp[ha]))
  simp only[num,List.length_cons,Nat.pow_succ]
  generalize 18446744073709551616 ^ l.length=P at *
  omega
def xG:List Nat→List Nat→List Nat→List Nat
 | x::xs,ys,z::zs=>match va x ys (z::zs) 0 with
  | a::r=>a::xG xs ys r
  | []=>[]
 | _,_,zs=>zs
theorem jK:∀ (xs ys zs:List Nat),xs.length=zs.length→zs.length≤ys.length→W64 zs→
  (xG xs ys zs).length=zs.length∧W64 (xG xs ys zs)∧num (xG xs ys zs)%18446744073709551616 ^ zs.length=(num zs+num xs*num ys)%18446744073709551616 ^ zs.length
 | [],_,[],_,_,_=>by simp[xG,W64,Nat.mod_one]
 | [],_,_::_,h,_,_=>by simp at h
 | _::_,_,[],h,_,_=>by simp at h
 | x::xs,ys,z::zs,hx,hy,hw=>by
  obtain⟨a,r,hr⟩:∃ a r,va x ys (z::zs) 0=a::r:=by
   cases ys with
   | nil=>simp at hy
   | cons y ys=>exact⟨_,_,rfl⟩
  have hl:=dy x ys (z::zs) 0 hy;have hn:=dz x ys (z::zs) 0 hy;have EY:=YT x ys (z::zs) 0;rw[hr]at hl hn EY;have hrl:r.length=zs.length:=by simpa using hl
  have ih:=jK xs ys r (by rw[hrl];simpa using hx) (by rw[hrl];simp at hy;omega) (fun b hb=>EY b (by simp[hb]));rw[hrl]at ih;have ha:a<18446744073709551616:=EY a (by simp)
  refine⟨by simp[xG,hr,ih.1], ?_, ?_⟩
  ·intro b hb
   simp only[xG,hr,List.mem_cons]at hb
   rcases hb with rfl | hb
   ·exact ha
   exact ih.2.1 b hb
  have e:=ih.2.2
  simp only[xG,hr,num,List.length_cons,Nat.pow_succ,Nat.add_zero]at hn⊢
  generalize hD:(18446744073709551616:Nat)=D at *
  generalize hP:D ^ zs.length=P at *
  have Ex:0<D:=by omega
  rw[Nat.mul_comm P D]at hn⊢
  have e1:(a+D*num (xG xs ys r))%(D*P)=(a+D*(num r+num xs*num ys))%(D*P):=by
   rw[Nat.mod_mul,Nat.mod_mul,Nat.add_mul_mod_self_left,Nat.add_mul_mod_self_left,Nat.add_mul_div_left _ _ Ex,Nat.add_mul_div_left _ _ Ex,Nat.div_eq_of_lt ha,Nat.zero_add,Nat.zero_add,e]
  rw[e1,Nat.mul_add,← Nat.add_assoc,Nat.add_mod,hn,← Nat.add_mod,Nat.add_mul,Nat.mul_assoc D,Nat.add_assoc,Nat.add_assoc]
theorem ea {x y:List Nat}(hx:x.length=4) (hy:y.length=4) :
  (xG x y [0,0,0,0]).length=4∧W64 (xG x y [0,0,0,0])∧(num x*num y<18446744073709551616 ^ 4→num (xG x y [0,0,0,0])=num x*num y):=by
 have h:=jK x y [0,0,0,0] (by simp[hx]) (by simp[hy]) (by simp[W64])
 refine⟨by simpa using h.1,h.2.1,fun hb=>?_⟩
 have h2:=Oe h.2.1;have e:=h.2.2;have hz:num [0,0,0,0]=0:=by decide
 rw[h.1]at h2
 simp only[List.length_cons,List.length_nil,hz,Nat.zero_add,Nat.reduceAdd]at h2 e
 rwa [Nat.mod_eq_of_lt h2,Nat.mod_eq_of_lt hb]at e
theorem Xe {n a b g:Nat}(hn:n≠0) (h1:a ^ n≤g) (h2:g<(a+1) ^ n) (h3:b ^ n≤g) (h4:g<(b+1) ^ n):a=b:=by
 rcases Nat.lt_trichotomy a b with h | h | h
 ·have:=Nat.pow_le_pow_left (show a+1≤b by omega) n
  omega
 ·exact h
 have:=Nat.pow_le_pow_left (show b+1≤a by omega) n
 omega
theorem NZ {x y z c:Nat}(hx:x<18446744073709551616) (hy:y<18446744073709551616) (hz:z<18446744073709551616) (hc:c<18446744073709551616) :
  x*y/18446744073709551616+(x*y%18446744073709551616+c)/18446744073709551616<18446744073709551616∧
  x*y/18446744073709551616+(x*y%18446744073709551616+c)/18446744073709551616+(z+(x*y%18446744073709551616+c)%18446744073709551616)/18446744073709551616=(z+x*y+c)/18446744073709551616∧
  (z+(x*y%18446744073709551616+c)%18446744073709551616)%18446744073709551616=(z+x*y+c)%18446744073709551616∧(z+x*y+c)/18446744073709551616<18446744073709551616:=by
 have:=Nat.mul_le_mul (show x≤18446744073709551615 by omega) (show y≤18446744073709551615 by omega)
 generalize x*y=p at *
 omega
end Go.Proofs.YtliomcphdnppnaaGreatDoor
namespace Go.Proofs.YtliomcphdnppnaaGreatDoor
def uZ:List Nat:=[2,3,5,7,11,13,17,19,23,29,31,37,41,43,47,53,59,61,67,71,73,79,83,89,97,101,103,107,109,113,127,131,137,139,149,151,157,163,167,173,179,181,191,193,197,199,211,223,227,229,233,239,241,251,257,263,269,271,277,281,283,293,307,311,313,317,331,337,347,349,353,359,367,373,379,383,389,397,401,409]
def q9:List Nat:=[4794697086780616226,8158064640168781261,13096744586834688815,16840607885511220156,4131703408338449720,6480981068601479193,10538285296894168987,12329834152419229976,15566598209576043074,1334009975649890238,2608012711638119052,6128411473006802146,8268148722764581231,9286055187155687089,11230858885718282805,13951009754708518548,16472876342353939154,17275323862435702243,1135362057144423861,2597628984639134821,3308224258029322869,5365058923640841347,6679025012923562964,8573033837759648693,10970295158949994411,12119686244451234320,12683024718118986047,13788192230050041572,14330467153632333762,15395433587784984357,489312712824947311,1452737877330783856,2861767655752347644,3322285676063803686,5560940570517711597,5996557281743188959,7280758554555802590,8532644243296465576,9350256976987008742,10552545826968843579,11727347734174303076,12113106623233404929,14000437183269869457,14369950271660146224,15101387698204529176,15463397548674623760,17586052441742319658,1182934255886127544,1847814050463011016,2177327727835720531,2830643537854262169,3796741975233480872,4115178125766777443,5681478168544905931,6601373596472566643,7507060721942968483,8399075790359081724,8693463985226723168,9568029438360202098,10144078919501101548,10430055236837252648,11840083180663258601,13761210420658862357,14299343276471374635,14566680578165727644,15097957966210449927,16922976911328602910,17689382322260857208,500013540394364858,748580250866718886,1242879168328830382,1977374033974150939,2944078676154940804,3659926193048069267,4368137639120453308,4836135668995329356,5532061633213252278,6448918945643986474,6902733635092675308,7801388544844847127]
def ue:List Nat:=[7640891576956012808,13503953896175478587,4354685564936845355,11912009170470909681,5840696475078001361,11170449401992604703,2270897969802886507,6620516959819538809]
def mP (n p c:Nat):Bool:=(List.range 21).any fun w=>decide ((w*18446744073709551616+c) ^ n≤p*18446744073709551616 ^ n)&&decide (p*18446744073709551616 ^ n<(w*18446744073709551616+c+1) ^ n)
end Go.Proofs.YtliomcphdnppnaaGreatDoor
namespace Go.Proofs.YtliomcphdnppnaaGreatDoor
def xQ (l:List Nat) (i:Nat):Nat:=l.getD i 0
theorem Zu {l:List Nat}(h:W64 l) (i:Nat):xQ l i<18446744073709551616:=by
 unfold xQ
 rcases Nat.lt_or_ge i l.length with h1 | h1
 ·rw[List.getD_eq_getElem?_getD,List.getElem?_eq_getElem h1]
  exact h _ (List.getElem_mem h1)
 rw[List.getD_eq_getElem?_getD,List.getElem?_eq_none h1];decide
theorem rf {l:List Nat}{i:Nat}(h:i<l.length):l.drop i=xQ l i::l.drop (i+1):=by
 rw[List.drop_eq_getElem_cons h]
 simp[xQ,h]
theorem W64.set {l:List Nat}(h:W64 l) (i:Nat) {n:Nat}(hn:n<18446744073709551616):W64 (l.set i n):=fun a ha=>by
 rcases List.mem_or_eq_of_mem_set ha with h1 | h1
 ·exact h a h1
 rw[h1];exact hn
theorem Yi {l:List Nat}{k u:Nat}(h:k<l.length):(l.set k u).take (k+1)=l.take k++[u]∧(l.set k u).drop (k+1)=l.drop (k+1):=by
 have e:l.set k u=l.take k++u::l.drop (k+1):=by rw[List.set_eq_take_append_cons_drop,if_pos h]
 have hl:(l.take k).length=k:=by rw[List.length_take];omega
 constructor
 ·rw[e,List.take_append,hl,List.take_of_length_le (by omega),Nat.add_sub_cancel_left];rfl
 rw[e,List.drop_append,hl,List.drop_of_length_le (by omega),Nat.add_sub_cancel_left];rfl
theorem Xp {zs ys:List Nat}{x c k j:Nat}(hk:k<zs.length) (hj:j<ys.length) :
  (zs.set k ((xQ zs k+x*xQ ys j+c)%18446744073709551616)).take (k+1)++va x (ys.drop (j+1)) ((zs.set k ((xQ zs k+x*xQ ys j+c)%18446744073709551616)).drop (k+1)) ((xQ zs k+x*xQ ys j+c)/18446744073709551616) =
  zs.take k++va x (ys.drop j) (zs.drop k) c:=by
 rw[(Yi hk).1,(Yi hk).2,rf hk,rf hj,va,List.append_assoc];rfl
theorem Xq {x y zs zs':List Nat}{i:Nat}(hi:i<x.length) (hz:i<zs.length) (hy:0<y.length) (h:zs'=zs.take i++va (xQ x i) y (zs.drop i) 0) :
  zs'.take (i+1)++xG (x.drop (i+1)) y (zs'.drop (i+1))=zs.take i++xG (x.drop i) y (zs.drop i):=by
 have hl:(zs.take i).length=i:=by rw[List.length_take];omega
 obtain⟨a,r,hr⟩:∃ a r,va (xQ x i) y (zs.drop i) 0=a::r:=by
  rw[rf hz]
  cases y with
  | nil=>simp at hy
  | cons b y=>exact⟨_,_,rfl⟩
 have e1:zs'.take (i+1)=zs.take i++[a]:=by
  rw[h,hr,List.take_append,hl,List.take_of_length_le (by omega),Nat.add_sub_cancel_left];rfl
 have e2:zs'.drop (i+1)=r:=by
  rw[h,hr,List.drop_append,hl,List.drop_of_length_le (by omega),Nat.add_sub_cancel_left];rfl
 rw[e1,e2,rf hi];rw[rf hz]at hr⊢;rw[xG,hr,List.append_assoc];rfl
theorem VF (x:Nat) (ys:List Nat) (c:Nat):va x ys [] c=[]:=by cases ys <;> rfl
theorem XV (ys zs:List Nat):xG [] ys zs=zs:=by cases zs <;> rfl
end Go.Proofs.YtliomcphdnppnaaGreatDoor
namespace Go.Proofs.YtliomcphdnppnaaGreatDoor
open Go.RowKit
def sT (a b x:Int):Int:=bits .or .u32 (x*a%4294967296) (x/b)
theorem UQ (x:Int) (w:World) :
  Calls Tryz.prog 164 #[.int .u32 x,.int .i64 (-17)] w fun e w'=>e=.returned (.int .u32 (sT 32768 131072 x))∧w=w':=by
 have e1:bits .and .u64 (IntKind.u64.wrap (-17)) 31=15:=by kernel_rfl
 have e2:IntKind.u64.wrap (32-15)=17:=by kernel_rfl
 exact jeh
theorem SF (x:Int) (w:World) :
  Calls Tryz.prog 129 #[.int .u32 x,.int .i64 17] w fun e w'=>e=.returned (.int .u32 (sT 32768 131072 x))∧w=w':=by
 have R:=Hh (UQ x w);exact jd5
theorem US (x:Int) (w:World) :
  Calls Tryz.prog 164 #[.int .u32 x,.int .i64 (-19)] w fun e w'=>e=.returned (.int .u32 (sT 8192 524288 x))∧w=w':=by
 have e1:bits .and .u64 (IntKind.u64.wrap (-19)) 31=13:=by kernel_rfl
 have e2:IntKind.u64.wrap (32-13)=19:=by kernel_rfl
 exact jeh
theorem SI (x:Int) (w:World) :
  Calls Tryz.prog 129 #[.int .u32 x,.int .i64 19] w fun e w'=>e=.returned (.int .u32 (sT 8192 524288 x))∧w=w':=by
 have R:=Hh (US x w);exact jd5
theorem Qh (x:Int) (w:World) :
  Calls Tryz.prog 164 #[.int .u32 x,.int .i64 (-7)] w fun e w'=>e=.returned (.int .u32 (sT 33554432 128 x))∧w=w':=by
 have e1:bits .and .u64 (IntKind.u64.wrap (-7)) 31=25:=by kernel_rfl
 have e2:IntKind.u64.wrap (32-25)=7:=by kernel_rfl
 exact jeh
theorem Nx (x:Int) (w:World) :
  Calls Tryz.prog 129 #[.int .u32 x,.int .i64 7] w fun e w'=>e=.returned (.int .u32 (sT 33554432 128 x))∧w=w':=by
 have R:=Hh (Qh x w);exact jd5
theorem UR (x:Int) (w:World) :
  Calls Tryz.prog 164 #[.int .u32 x,.int .i64 (-18)] w fun e w'=>e=.returned (.int .u32 (sT 16384 262144 x))∧w=w':=by
 have e1:bits .and .u64 (IntKind.u64.wrap (-18)) 31=14:=by kernel_rfl
 have e2:IntKind.u64.wrap (32-14)=18:=by kernel_rfl
 exact jeh
theorem SG (x:Int) (w:World) :
  Calls Tryz.prog 129 #[.int .u32 x,.int .i64 18] w fun e w'=>e=.returned (.int .u32 (sT 16384 262144 x))∧w=w':=by
 have R:=Hh (UR x w);exact jd5
theorem Qg (x:Int) (w:World) :
  Calls Tryz.prog 164 #[.int .u32 x,.int .i64 (-6)] w fun e w'=>e=.returned (.int .u32 (sT 67108864 64 x))∧w=w':=by
 have e1:bits .and .u64 (IntKind.u64.wrap (-6)) 31=26:=by kernel_rfl
 have e2:IntKind.u64.wrap (32-26)=6:=by kernel_rfl
 exact jeh
theorem Nw (x:Int) (w:World) :
  Calls Tryz.prog 129 #[.int .u32 x,.int .i64 6] w fun e w'=>e=.returned (.int .u32 (sT 67108864 64 x))∧w=w':=by
 have R:=Hh (Qg x w);exact jd5
theorem UO (x:Int) (w:World) :
  Calls Tryz.prog 164 #[.int .u32 x,.int .i64 (-11)] w fun e w'=>e=.returned (.int .u32 (sT 2097152 2048 x))∧w=w':=by
 have e1:bits .and .u64 (IntKind.u64.wrap (-11)) 31=21:=by kernel_rfl
 have e2:IntKind.u64.wrap (32-21)=11:=by kernel_rfl
 exact jeh
theorem S7 (x:Int) (w:World) :
  Calls Tryz.prog 129 #[.int .u32 x,.int .i64 11] w fun e w'=>e=.returned (.int .u32 (sT 2097152 2048 x))∧w=w':=by
 have R:=Hh (UO x w);exact jd5
theorem UU (x:Int) (w:World) :
  Calls Tryz.prog 164 #[.int .u32 x,.int .i64 (-25)] w fun e w'=>e=.returned (.int .u32 (sT 128 33554432 x))∧w=w':=by
 have e1:bits .and .u64 (IntKind.u64.wrap (-25)) 31=7:=by kernel_rfl
 have e2:IntKind.u64.wrap (32-7)=25:=by kernel_rfl
 exact jeh
theorem SK (x:Int) (w:World) :
  Calls Tryz.prog 129 #[.int .u32 x,.int .i64 25] w fun e w'=>e=.returned (.int .u32 (sT 128 33554432 x))∧w=w':=by
 have R:=Hh (UU x w);exact jd5
theorem Qf (x:Int) (w:World) :
  Calls Tryz.prog 164 #[.int .u32 x,.int .i64 (-2)] w fun e w'=>e=.returned (.int .u32 (sT 1073741824 4 x))∧w=w':=by
 have e1:bits .and .u64 (IntKind.u64.wrap (-2)) 31=30:=by kernel_rfl
 have e2:IntKind.u64.wrap (32-30)=2:=by kernel_rfl
 exact jeh
theorem Nv (x:Int) (w:World) :
  Calls Tryz.prog 129 #[.int .u32 x,.int .i64 2] w fun e w'=>e=.returned (.int .u32 (sT 1073741824 4 x))∧w=w':=by
 have R:=Hh (Qf x w);exact jd5
theorem UP (x:Int) (w:World) :
  Calls Tryz.prog 164 #[.int .u32 x,.int .i64 (-13)] w fun e w'=>e=.returned (.int .u32 (sT 524288 8192 x))∧w=w':=by
 have e1:bits .and .u64 (IntKind.u64.wrap (-13)) 31=19:=by kernel_rfl
 have e2:IntKind.u64.wrap (32-19)=13:=by kernel_rfl
 exact jeh
theorem S9 (x:Int) (w:World) :
  Calls Tryz.prog 129 #[.int .u32 x,.int .i64 13] w fun e w'=>e=.returned (.int .u32 (sT 524288 8192 x))∧w=w':=by
 have R:=Hh (UP x w);exact jd5
theorem UT (x:Int) (w:World) :
  Calls Tryz.prog 164 #[.int .u32 x,.int .i64 (-22)] w fun e w'=>e=.returned (.int .u32 (sT 1024 4194304 x))∧w=w':=by
 have e1:bits .and .u64 (IntKind.u64.wrap (-22)) 31=10:=by kernel_rfl
 have e2:IntKind.u64.wrap (32-10)=22:=by kernel_rfl
 exact jeh
theorem SJ (x:Int) (w:World) :
  Calls Tryz.prog 129 #[.int .u32 x,.int .i64 22] w fun e w'=>e=.returned (.int .u32 (sT 1024 4194304 x))∧w=w':=by
 have R:=Hh (UT x w);exact jd5
theorem OwnX.kl {α:Type}{L:Lie α}{t:TypeId}{w w':World}{base N:Nat}{v:Value}{H:Snap}{l:List α}(h:OwnX L t w base v H l) (hg:w.grownBy w' (some N)) (hl:∀ q,v.ownBlock=some q→q<N):OwnX L t w' base v H l:=h.kept hg (by cases hv:v.ownBlock with | none=>exact .inl rfl | some q=>exact .inr (fun e=>by injection e with e;exact Nat.lt_irrefl _ (e ▸ hl q hv)))
end Go.Proofs.YtliomcphdnppnaaGreatDoor
