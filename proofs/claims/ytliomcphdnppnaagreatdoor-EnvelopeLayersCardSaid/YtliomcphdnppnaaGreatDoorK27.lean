/- squeezed. Headers: the algorithm's number, o -/
import Derived.Test.YtliomcphdnppnaaGreatDoorK06
import Derived.KernelRfl
set_option linter.unusedVariables false
set_option linter.unusedSimpArgs false
set_option maxRecDepth 100000
set_option maxHeartbeats 6400000
namespace Go.Proofs.YtliomcphdnppnaaGreatDoor
open Go.RowKit
theorem oS {p u:Itm}(h:zI p u=true):(∀ q∈zg p.items,wO q.1=true)∧(∀ q∈zg u.items,wO q.1=true):=by
 simp[zI,tq]at h
 have h1:=h.1.1.1.1.2;have h2:=h.1.1.1.2.2;rw[tL,List.all_eq_true]at h1 h2
 exact⟨fun q hq=>qV (h1 q hq),fun q hq=>qV (h2 q hq)⟩
theorem UQ {p u:Itm}(hv:zI p u=true) (np:Nums p) (nu:Nums u) (j:Nat) (hj:j<100):vT p u (j:Int)=wt p u (j:Int):=by
 obtain⟨vp,vu,fC,Z4⟩:=xr hv;obtain⟨lp,lu⟩:=oS hv;have N2:Nums (zZ (j:Int)):=by rw[wZ,Nums,NumsL];exact⟨by omega,trivial⟩
 rw[vT,wt,pR fC vp np lp (wV j) N2,pR Z4 vu nu lu (wV j) N2]
 all_goals (cases atL (zZ (j:Int)) p.items <;> rfl)
def lD (p u:Itm) (n:Int):Option Itm:=if zI p u=true then vT p u n else none
def bS (x:Itm):Int:=if x.kind=1 then IntKind.i64.wrap (-1-IntKind.i64.wrap (x.n:Int)) else IntKind.i64.wrap (x.n:Int)
def rF (p u:Itm):Int:=match lD p u 1 with
 | some x=>bS x
 | none=>0
def nw (g:Int):Nat:=if g=4 then 8 else if g=5 then 32 else 0
theorem bM {p:Itm}(h:zU p=true) (h5:p.kind=5):p=.mk 5 0 [] p.items∧p.items.length%2=0∧xe p.items=true:=by
 have hg:=((yw p).1 h).1;have hf:=y5 (jv hg (by omega));have hb:p.bytes=[]:=List.length_eq_zero_iff.1 hf.2.2.2.1;have ha:=hg.asc h5;have hn:=hf.2.2.2.2.2.1 (by omega);have he:=hf.2.2.2.2.2.2 h5;obtain⟨k,n,b,l⟩:=p
 simp only[Itm.kind,Itm.bytes,Itm.items,Itm.n]at h5 hb hn he ha⊢
 subst h5 hb hn
 exact⟨rfl,he,ha⟩
def xN (n s:Nat):UInt8:=UInt8.ofNat (n/2 ^ s)
def sr (n:Nat):List UInt8:=[xN n 56,xN n 48,xN n 40,xN n 32,xN n 24,xN n 16,xN n 8,xN n 0]
def nm (n:Nat):Nat:=(119-n%64)%64
def Q9 (n:Nat):Nat:=n*8%18446744073709551616
def qn (l:List UInt8):List UInt8:=l++[128]++List.replicate (nm l.length) 0++sr (Q9 l.length)
theorem uk (n:Nat):(sr n).length=8:=rfl
theorem Uf (l:List UInt8):(qn l).length=l.length+9+nm l.length∧(qn l).length%64=0:=by
 have h:(qn l).length=l.length+9+nm l.length:=by
  simp only[qn,List.length_append,List.length_replicate,uk,List.length_singleton]
  omega
 refine⟨h, ?_⟩
 rw[h,nm]
 omega
theorem SP (n:Nat):nm n<64:=Nat.mod_lt _ (by decide)
theorem SO {n z:Nat}(hz:z≤nm n) (h:¬ (n+1+z+8)%64=0):z<nm n:=by
 unfold nm at *
 omega
theorem Xv {n z:Nat}(hz:z≤nm n) (h:(n+1+z+8)%64=0):z=nm n:=by
 unfold nm at *
 omega
def mg:Value→Nat
 | .slice _ m _=>m
 | _=>0
theorem vO (N s:Nat) (d:Int) (hd:d=((2 ^ s:Nat):Int)):zq (xN N s)=.int .u8 ((N:Int)/d%256):=by
 subst hd;rw[zq,xN,UInt8.toNat_ofNat'];rfl
def wX (l:List UInt8) (z:Nat):List UInt8:=l++[128]++List.replicate z 0
theorem dX (l:List UInt8) (z:Nat):wX l z++[0]=wX l (z+1):=by
 rw[wX,wX,List.replicate_succ',List.append_assoc]
theorem xH (l:List UInt8) (z:Nat):(wX l z).length=l.length+1+z:=by simp[wX];omega
theorem YU (N k:Nat) (h:k<8):(sr N).take k++[(sr N).getD k 0]=(sr N).take (k+1):=by
 obtain rfl | rfl | rfl | rfl | rfl | rfl | rfl | rfl:k=0∨k=1∨k=2∨k=3∨k=4∨k=5∨k=6∨k=7:=by omega
 all_goals rfl
theorem aw {A:Option Addr}{c:Nat}{l:List UInt8}{n:Nat}(hn:n=l.length) (me:l.length≤1099511627) (w:World) (hS:Src w A (l.map zq)) :
  Calls Tryz.prog 102 #[.slice A n c,.int .i64 64,.int .i64 8] w fun e w'=>∃ r,e=.returned r∧Fresh w (qn l) r w':=by
 obtain⟨i0,uv,o1,rp,rQ⟩:=info_parts kx;have HN:=Hh (And.intro hn me);obtain⟨n2,uH⟩:∃ n2,n+128=n2:=⟨_,rfl⟩
 have qr:IntKind.i64.wrap ((n:Int)+128)=(n2:Int):=by rw[← uH,Int.natCast_add];exact IntWalk.i64_in _ (by omega)
 have ig:=Hh uH;obtain⟨N,hN⟩:∃ N,Q9 l.length=N:=⟨_,rfl⟩
 have lQ:IntKind.u64.wrap ((n:Int))=(n:Int):=IntWalk.u64_in _ (by omega);have Ni:IntKind.u64.wrap ((n:Int)*8)=(N:Int):=by rw[← hN,Q9,IntKind.wrap_u64,hn];omega
 have ke:=Hh hN;clear uH hn me hN;go_enter Tryz.func102,Tryz.ntmps102
 go_wp2_with (at_make;refine zM ?_)
 refine wpList_make_own w rfl _ _ 23 rfl w.heap.size 5 i0 _ 1 Tryz.underlying23 uv o1 rp .i64 .i64 (n2:Int) n2 rfl rfl rfl (by rw[rQ];have:=HN.out;have:=ig.out;omega) (by have:=HN.out;have:=ig.out;simp only[maxLen];omega) (Nat.le_refl _) fun w1 wD NJ=>?_
 have hO:OwnB w1 w.heap.size (.slice (some ⟨w.heap.size,0,none⟩) 0 n2) []:=wD;have zJ:=yS NJ;have Tx:=hS.below zJ;clear wD NJ uv o1 rp rQ hS qr;go_wp2_with (at_builtin;refine zM ?_)
 refine zo rfl (.tmp 15) (.tmp 16) rfl w.heap.size _ [] rfl hO A n c l rfl HN.out.1 Tx (by have:=HN.out.2;simp;omega) zJ.size fun v' w2 rj tu hat2=>?_
 rw[List.nil_append]at rj;have zK:=zR zJ tu (fun q hq=>(hO.lt q hq).1);have oX:=rj.alloc (.cells #[.int .u8 128] 5);have xz:=zK.alloc zK.size (.cells #[.int .u8 128] 5);clear hO zJ Tx tu hat2;go_wp2_with (at_builtin;refine zM ?_)
 refine zo rfl (.tmp 17) (.tmp 18) rfl w.heap.size _ l rfl oX _ 1 _ [128] rfl rfl (Src.new _ _ _ _ rfl _ rfl) (by have:=HN.out.2;simp;omega) xz.size fun v3 w3 rl qF hat3=>?_
 have ui:=zR xz qF (fun q hq=>(rj.lt q hq).1);replace rl:OwnB w3 w.heap.size v3 (wX l 0):=by rw[wX];simpa using rl
 obtain⟨A3,c3,rfl,_⟩:=rl.form;rw[xH]at rl⊢;clear rj oX zK xz qF hat3;go_wp2_with fail
 go_loopw [7] (fun v7 wr=>∃ (z m:Nat) (VA:Option Addr) (vc:Nat),v7=.slice VA m vc∧Hid (m=l.length+1+z)∧Hid (z≤nm l.length)∧OwnB wr w.heap.size (.slice VA m vc) (wX l z)∧Below w.heap.size w wr) (fun v7 _=>l.length+65-mg v7)
 case atStart=>exact⟨0,_,A3,c3,rfl,rfl,Nat.zero_le _,rl,ui⟩
 case round =>
 clear rl ui;obtain⟨z,m,VA,vc,rfl,HM,HZ,hO,hb⟩:=hrel;have HB:=Hh (SP l.length);obtain⟨m8,Qg⟩:∃ m8,m+8=m8:=⟨_,rfl⟩
 have Re:IntKind.i64.wrap ((m:Int)+8)=(m8:Int):=by rw[← Qg,Int.natCast_add];exact IntWalk.i64_in _ (by have:=HM.out;have:=HZ.out;have:=HB.out;have:=HN.out;omega)
 have KF:=Hh Qg;clear Qg;obtain⟨r,hr⟩:∃ r,m8%64=r:=⟨_,rfl⟩
 have Ql:(m8:Int).tmod 64=(r:Int):=by rw[← hr];exact(Int.ofNat_tmod m8 64).symm
 have NY:(m8:Int)%64=(r:Int):=by rw[← hr];omega
 have HR:=Hh hr;clear hr
 by_cases h0:r=0
 ·subst h0;have bm:Hid (z=nm l.length):=Xv HZ.out (by have:=HR.out;have:=KF.out;have:=HM.out;omega);go_wp2_with fail
  go_loopw [7,9] (fun v7 v9 wx=>∃ (k mm:Nat) (VB:Option Addr) (vb:Nat),v7=.slice VB mm vb∧v9=.int .i64 (56-8*(k:Int))∧k≤8∧Hid (mm=m+k)∧OwnB wx w.heap.size (.slice VB mm vb) (wX l z++(sr N).take k)∧Below w.heap.size w wx) (fun v7 _ _=>m+8-mg v7)
  case atStart=>exact⟨0,m,VA,vc,rfl,rfl,by omega,rfl,by simpa using hO,hb⟩
  case round =>
  clear hO hb;obtain⟨k,mm,VB,vb,rfl,rfl,hk,rI,hO,hb⟩:=hrel
  have qJ:Hid ((wX l z++(sr N).take k).length≤1099511627700):=by
   have:=HM.out;have:=rI.out;have:=HN.out;have:=HZ.out;have:=HB.out
   rw[Hid,List.length_append,xH,List.length_take,uk]
   omega
  have HT:=Hh (fun h=>YU N k h)
  rcases(show k=0∨k=1∨k=2∨k=3∨k=4∨k=5∨k=6∨k=7∨k=8 by omega) with rfl | rfl | rfl | rfl | rfl | rfl | rfl | rfl | rfl
  ·go_wp2_with (at_builtin;refine zM ?_)
   unfold zD
   have wD:=hO.alloc (.cells #[.int .u8 ((N:Int)/72057594037927936%256)] 5);have zJ:=hb.alloc hb.size (.cells #[.int .u8 ((N:Int)/72057594037927936%256)] 5)
   refine zo rfl (.tmp 40) (.tmp 46) rfl w.heap.size _ _ rfl wD _ 1 _ [xN N 56] rfl rfl (Src.new _ _ _ _ rfl _ (by simp only[List.map_cons,List.map_nil];rw[vO N 56 72057594037927936 rfl])) (by have:=qJ.out;simp only[List.length_singleton];omega) zJ.size fun v' w5 xo yP wb=>?_
   have xS:=zR zJ yP (fun q hq=>(hO.lt q hq).1);rw[List.append_assoc,show [xN N 56]=[(sr N).getD 0 0] from rfl,HT.out (by omega)]at xo;obtain⟨A5,c5,rfl,_⟩:=xo.form
   have ix:Hid ((wX l z++(sr N).take (0+1)).length=m+1):=by
    have:=HM.out;rw[Hid,List.length_append,xH,List.length_take,uk]
    omega
   rw[ix.out]at xo⊢;clear hO hb wD zJ yP wb;go_wp2_with fail
   go_roundw
   case rel=>exact⟨1,m+1,A5,c5,rfl,by go_num,by omega,rfl,xo,xS⟩
   case measure=>have:=rI.out;simp only[mg];omega
  ·go_wp2_with (at_builtin;refine zM ?_)
   unfold zD
   have wD:=hO.alloc (.cells #[.int .u8 ((N:Int)/281474976710656%256)] 5);have zJ:=hb.alloc hb.size (.cells #[.int .u8 ((N:Int)/281474976710656%256)] 5)
   refine zo rfl (.tmp 40) (.tmp 46) rfl w.heap.size _ _ rfl wD _ 1 _ [xN N 48] rfl rfl (Src.new _ _ _ _ rfl _ (by simp only[List.map_cons,List.map_nil];rw[vO N 48 281474976710656 rfl])) (by have:=qJ.out;simp only[List.length_singleton];omega) zJ.size fun v' w5 xo yP wb=>?_
   have xS:=zR zJ yP (fun q hq=>(hO.lt q hq).1);rw[List.append_assoc,show [xN N 48]=[(sr N).getD 1 0] from rfl,HT.out (by omega)]at xo;obtain⟨A5,c5,rfl,_⟩:=xo.form
   have ix:Hid ((wX l z++(sr N).take (1+1)).length=m+2):=by
    have:=HM.out;rw[Hid,List.length_append,xH,List.length_take,uk]
    omega
   rw[ix.out]at xo⊢;clear hO hb wD zJ yP wb;go_wp2_with fail
   go_roundw
   case rel=>exact⟨2,m+2,A5,c5,rfl,by go_num,by omega,rfl,xo,xS⟩
   case measure=>have:=rI.out;simp only[mg];omega
  ·go_wp2_with (at_builtin;refine zM ?_)
   unfold zD
   have wD:=hO.alloc (.cells #[.int .u8 ((N:Int)/1099511627776%256)] 5);have zJ:=hb.alloc hb.size (.cells #[.int .u8 ((N:Int)/1099511627776%256)] 5)
   refine zo rfl (.tmp 40) (.tmp 46) rfl w.heap.size _ _ rfl wD _ 1 _ [xN N 40] rfl rfl (Src.new _ _ _ _ rfl _ (by simp only[List.map_cons,List.map_nil];rw[vO N 40 1099511627776 rfl])) (by have:=qJ.out;simp only[List.length_singleton];omega) zJ.size fun v' w5 xo yP wb=>?_
   have xS:=zR zJ yP (fun q hq=>(hO.lt q hq).1);rw[List.append_assoc,show [xN N 40]=[(sr N).getD 2 0] from rfl,HT.out (by omega)]at xo;obtain⟨A5,c5,rfl,_⟩:=xo.form
   have ix:Hid ((wX l z++(sr N).take (2+1)).length=m+3):=by
    have:=HM.out;rw[Hid,List.length_append,xH,List.length_take,uk]
    omega
   rw[ix.out]at xo⊢;clear hO hb wD zJ yP wb;go_wp2_with fail
   go_roundw
   case rel=>exact⟨3,m+3,A5,c5,rfl,by go_num,by omega,rfl,xo,xS⟩
   case measure=>have:=rI.out;simp only[mg];omega
  ·go_wp2_with (at_builtin;refine zM ?_)
   unfold zD
   have wD:=hO.alloc (.cells #[.int .u8 ((N:Int)/4294967296%256)] 5);have zJ:=hb.alloc hb.size (.cells #[.int .u8 ((N:Int)/4294967296%256)] 5)
   refine zo rfl (.tmp 40) (.tmp 46) rfl w.heap.size _ _ rfl wD _ 1 _ [xN N 32] rfl rfl (Src.new _ _ _ _ rfl _ (by simp only[List.map_cons,List.map_nil];rw[vO N 32 4294967296 rfl])) (by have:=qJ.out;simp only[List.length_singleton];omega) zJ.size fun v' w5 xo yP wb=>?_
   have xS:=zR zJ yP (fun q hq=>(hO.lt q hq).1);rw[List.append_assoc,show [xN N 32]=[(sr N).getD 3 0] from rfl,HT.out (by omega)]at xo;obtain⟨A5,c5,rfl,_⟩:=xo.form
   have ix:Hid ((wX l z++(sr N).take (3+1)).length=m+4):=by
    have:=HM.out;rw[Hid,List.length_append,xH,List.length_take,uk]
    omega
   rw[ix.out]at xo⊢;clear hO hb wD zJ yP wb;go_wp2_with fail
   go_roundw
   case rel=>exact⟨4,m+4,A5,c5,rfl,by go_num,by omega,rfl,xo,xS⟩
   case measure=>have:=rI.out;simp only[mg];omega
  ·go_wp2_with (at_builtin;refine zM ?_)
   unfold zD
   have wD:=hO.alloc (.cells #[.int .u8 ((N:Int)/16777216%256)] 5);have zJ:=hb.alloc hb.size (.cells #[.int .u8 ((N:Int)/16777216%256)] 5)
   refine zo rfl (.tmp 40) (.tmp 46) rfl w.heap.size _ _ rfl wD _ 1 _ [xN N 24] rfl rfl (Src.new _ _ _ _ rfl _ (by simp only[List.map_cons,List.map_nil];rw[vO N 24 16777216 rfl])) (by have:=qJ.out;simp only[List.length_singleton];omega) zJ.size fun v' w5 xo yP wb=>?_
   have xS:=zR zJ yP (fun q hq=>(hO.lt q hq).1);rw[List.append_assoc,show [xN N 24]=[(sr N).getD 4 0] from rfl,HT.out (by omega)]at xo;obtain⟨A5,c5,rfl,_⟩:=xo.form
   have ix:Hid ((wX l z++(sr N).take (4+1)).length=m+5):=by
    have:=HM.out;rw[Hid,List.length_append,xH,List.length_take,uk]
    omega
   rw[ix.out]at xo⊢;clear hO hb wD zJ yP wb;go_wp2_with fail
   go_roundw
   case rel=>exact⟨5,m+5,A5,c5,rfl,by go_num,by omega,rfl,xo,xS⟩
   case measure=>have:=rI.out;simp only[mg];omega
  ·go_wp2_with (at_builtin;refine zM ?_)
   unfold zD
   have wD:=hO.alloc (.cells #[.int .u8 ((N:Int)/65536%256)] 5);have zJ:=hb.alloc hb.size (.cells #[.int .u8 ((N:Int)/65536%256)] 5)
   refine zo rfl (.tmp 40) (.tmp 46) rfl w.heap.size _ _ rfl wD _ 1 _ [xN N 16] rfl rfl (Src.new _ _ _ _ rfl _ (by simp only[List.map_cons,List.map_nil];rw[vO N 16 65536 rfl])) (by have:=qJ.out;simp only[List.length_singleton];omega) zJ.size fun v' w5 xo yP wb=>?_
   have xS:=zR zJ yP (fun q hq=>(hO.lt q hq).1);rw[List.append_assoc,show [xN N 16]=[(sr N).getD 5 0] from rfl,HT.out (by omega)]at xo;obtain⟨A5,c5,rfl,_⟩:=xo.form
   have ix:Hid ((wX l z++(sr N).take (5+1)).length=m+6):=by
    have:=HM.out;rw[Hid,List.length_append,xH,List.length_take,uk]
    omega
   rw[ix.out]at xo⊢;clear hO hb wD zJ yP wb;go_wp2_with fail
   go_roundw
   case rel=>exact⟨6,m+6,A5,c5,rfl,by go_num,by omega,rfl,xo,xS⟩
   case measure=>have:=rI.out;simp only[mg];omega
  ·go_wp2_with (at_builtin;refine zM ?_)
   unfold zD
   have wD:=hO.alloc (.cells #[.int .u8 ((N:Int)/256%256)] 5);have zJ:=hb.alloc hb.size (.cells #[.int .u8 ((N:Int)/256%256)] 5)
   refine zo rfl (.tmp 40) (.tmp 46) rfl w.heap.size _ _ rfl wD _ 1 _ [xN N 8] rfl rfl (Src.new _ _ _ _ rfl _ (by simp only[List.map_cons,List.map_nil];rw[vO N 8 256 rfl])) (by have:=qJ.out;simp only[List.length_singleton];omega) zJ.size fun v' w5 xo yP wb=>?_
   have xS:=zR zJ yP (fun q hq=>(hO.lt q hq).1);rw[List.append_assoc,show [xN N 8]=[(sr N).getD 6 0] from rfl,HT.out (by omega)]at xo;obtain⟨A5,c5,rfl,_⟩:=xo.form
   have ix:Hid ((wX l z++(sr N).take (6+1)).length=m+7):=by
    have:=HM.out;rw[Hid,List.length_append,xH,List.length_take,uk]
    omega
   rw[ix.out]at xo⊢;clear hO hb wD zJ yP wb;go_wp2_with fail
   go_roundw
   case rel=>exact⟨7,m+7,A5,c5,rfl,by go_num,by omega,rfl,xo,xS⟩
   case measure=>have:=rI.out;simp only[mg];omega
  ·go_wp2_with (at_builtin;refine zM ?_)
   unfold zD
   have wD:=hO.alloc (.cells #[.int .u8 ((N:Int)%256)] 5);have zJ:=hb.alloc hb.size (.cells #[.int .u8 ((N:Int)%256)] 5)
   refine zo rfl (.tmp 40) (.tmp 46) rfl w.heap.size _ _ rfl wD _ 1 _ [xN N 0] rfl rfl (Src.new _ _ _ _ rfl _ (by simp only[List.map_cons,List.map_nil];rw[vO N 0 1 rfl];simp)) (by have:=qJ.out;simp only[List.length_singleton];omega) zJ.size fun v' w5 xo yP wb=>?_
   have xS:=zR zJ yP (fun q hq=>(hO.lt q hq).1);rw[List.append_assoc,show [xN N 0]=[(sr N).getD 7 0] from rfl,HT.out (by omega)]at xo;obtain⟨A5,c5,rfl,_⟩:=xo.form
   have ix:Hid ((wX l z++(sr N).take (7+1)).length=m+8):=by
    have:=HM.out;rw[Hid,List.length_append,xH,List.length_take,uk]
    omega
   rw[ix.out]at xo⊢;clear hO hb wD zJ yP wb;go_wp2_with fail
   go_roundw
   case rel=>exact⟨8,m+8,A5,c5,rfl,by go_num,by omega,rfl,xo,xS⟩
   case measure=>have:=rI.out;simp only[mg];omega
  have hp:wX l z++(sr N).take 8=qn l:=by
   rw[wX,bm.out,← ke.out];rfl
  rw[hp]at hO;go_wp2_with fail
  go_ret
  exact⟨_,rfl,by have h:=hO.form;obtain⟨_,_,e,_⟩:=h;exact⟨hO,hb⟩⟩
 have hz:Hid (z+1≤nm l.length):=SO HZ.out (by have:=HR.out;have:=KF.out;have:=HM.out;omega);have wD:=hO.alloc (.cells #[.int .u8 0] 5);have zJ:=hb.alloc hb.size (.cells #[.int .u8 0] 5);go_wp2_with (at_builtin;refine zM ?_)
 refine zo rfl (.tmp 27) (.tmp 28) rfl w.heap.size _ _ rfl wD _ 1 _ [0] rfl rfl (Src.new _ _ _ _ rfl _ rfl) (by rw[xH];have:=HN.out.2;have:=HB.out;have:=hz.out;simp only[List.length_singleton];omega) zJ.size fun v' w5 xo yP wb=>?_
 have xS:=zR zJ yP (fun q hq=>(hO.lt q hq).1);rw[dX]at xo;obtain⟨A5,c5,rfl,_⟩:=xo.form;rw[xH]at xo⊢;clear hO hb wD zJ yP wb;go_wp2_with fail
 go_roundw
 case rel=>exact⟨z+1,_,A5,c5,rfl,rfl,hz,xo,xS⟩
 case measure=>have:=HM.out;have:=HB.out;have:=hz.out;simp only[mg];omega
end Go.Proofs.YtliomcphdnppnaaGreatDoor
namespace Go.Proofs.YtliomcphdnppnaaGreatDoor
def num:List Nat→Nat
 | []=>0
 | x::l=>x+18446744073709551616*num l
def W64 (l:List Nat):Prop:=∀ x∈l,x<18446744073709551616
def wj (x:Nat):List Nat→List Nat→Nat→List Nat
 | y::ys,z::zs,c=>(z+x*y+c)%18446744073709551616::wj x ys zs ((z+x*y+c)/18446744073709551616)
 | _,_,_=>[]
theorem jU (x:Nat):∀ (ys zs:List Nat) (c:Nat),zs.length≤ys.length→(wj x ys zs c).length=zs.length
 | _,[],_,_=>by simp[wj]
 | [],z::zs,_,h=>by simp at h
 | y::ys,z::zs,c,h=>by simp[wj,jU x ys zs _ (by simpa using h)]
theorem eA (x:Nat):∀ (ys zs:List Nat) (c:Nat),W64 (wj x ys zs c)
 | _,[],_=>by simp[wj,W64]
 | [],z::zs,_=>by simp[wj,W64]
 | y::ys,z::zs,c=>by
  intro a ha
  simp only[wj,List.mem_cons]at ha
  rcases ha with rfl | ha
  ·exact Nat.mod_lt _ (by decide)
  exact eA x ys zs _ a ha
theorem jV (x:Nat):∀ (ys zs:List Nat) (c:Nat),zs.length≤ys.length→
  num (wj x ys zs c)%18446744073709551616 ^ zs.length=(num zs+x*num ys+c)%18446744073709551616 ^ zs.length
 | _,[],_,_=>by simp[Nat.mod_one]
 | [],z::zs,_,h=>by simp at h
 | y::ys,z::zs,c,h=>by
  have ih:=jV x ys zs ((z+x*y+c)/18446744073709551616) (by simpa using h)
  simp only[wj,num,List.length_cons,Nat.pow_succ]
  generalize hD:(18446744073709551616:Nat)=D at *
  generalize hP:D ^ zs.length=P at *
  have O1:0<D:=by omega
  have e:z+D*num zs+x*(y+D*num ys)+c=(z+x*y+c)%D+D*(num zs+x*num ys+(z+x*y+c)/D):=by
   have:=Nat.mod_add_div (z+x*y+c) D;have e2:x*(y+D*num ys)=x*y+D*(x*num ys):=by rw[Nat.mul_add,Nat.mul_left_comm]
   rw[e2,Nat.mul_add,Nat.mul_add]
   omega
  rw[e,Nat.mul_comm P D,Nat.mod_mul,Nat.mod_mul];have zB:(z+x*y+c)%D<D:=Nat.mod_lt _ O1
  generalize (z+x*y+c)%D=r at *
  rw[Nat.add_mul_mod_self_left,Nat.add_mul_mod_self_left,Nat.mod_eq_of_lt zB,Nat.add_mul_div_left _ _ O1,Nat.add_mul_div_left _ _ O1,Nat.div_eq_of_lt zB,Nat.zero_add,Nat.zero_add,ih]
theorem VW:∀ {l:List Nat},W64 l→num l<18446744073709551616 ^ l.length
 | [],_=>by simp[num]
 | x::l,h=>by
  have h1:x<18446744073709551616:=h x (by simp);have h2:=VW (l:=l) (fun a ha=>h a (by simp[ha]))
  simp only[num,List.length_cons,Nat.pow_succ]
  generalize 18446744073709551616 ^ l.length=P at *
  omega
def y6:List Nat→List Nat→List Nat→List Nat
 | x::xs,ys,z::zs=>match wj x ys (z::zs) 0 with
  | a::r=>a::y6 xs ys r
  | []=>[]
 | _,_,zs=>zs
theorem nI:∀ (xs ys zs:List Nat),xs.length=zs.length→zs.length≤ys.length→W64 zs→
  (y6 xs ys zs).length=zs.length∧W64 (y6 xs ys zs)∧num (y6 xs ys zs)%18446744073709551616 ^ zs.length=(num zs+num xs*num ys)%18446744073709551616 ^ zs.length
 | [],_,[],_,_,_=>by simp[y6,W64,Nat.mod_one]
 | [],_,_::_,h,_,_=>by simp at h
 | _::_,_,[],h,_,_=>by simp at h
 | x::xs,ys,z::zs,hx,hy,hw=>by
  obtain⟨a,r,hr⟩:∃ a r,wj x ys (z::zs) 0=a::r:=by
   cases ys with
   | nil=>simp at hy
   | cons y ys=>exact⟨_,_,rfl⟩
  have hl:=jU x ys (z::zs) 0 hy;have hn:=jV x ys (z::zs) 0 hy;have Nj:=eA x ys (z::zs) 0;rw[hr]at hl hn Nj;have Jl:r.length=zs.length:=by simpa using hl
  have ih:=nI xs ys r (by rw[Jl];simpa using hx) (by rw[Jl];simp at hy;omega) (fun b hb=>Nj b (by simp[hb]));rw[Jl]at ih;have ha:a<18446744073709551616:=Nj a (by simp)
  refine⟨by simp[y6,hr,ih.1], ?_, ?_⟩
  ·intro b hb
   simp only[y6,hr,List.mem_cons]at hb
   rcases hb with rfl | hb
   ·exact ha
   exact ih.2.1 b hb
  have e:=ih.2.2
  simp only[y6,hr,num,List.length_cons,Nat.pow_succ,Nat.add_zero]at hn⊢
  generalize hD:(18446744073709551616:Nat)=D at *
  generalize hP:D ^ zs.length=P at *
  have O1:0<D:=by omega
  rw[Nat.mul_comm P D]at hn⊢
  have e1:(a+D*num (y6 xs ys r))%(D*P)=(a+D*(num r+num xs*num ys))%(D*P):=by
   rw[Nat.mod_mul,Nat.mod_mul,Nat.add_mul_mod_self_left,Nat.add_mul_mod_self_left,Nat.add_mul_div_left _ _ O1,Nat.add_mul_div_left _ _ O1,Nat.div_eq_of_lt ha,Nat.zero_add,Nat.zero_add,e]
  rw[e1,Nat.mul_add,← Nat.add_assoc,Nat.add_mod,hn,← Nat.add_mod,Nat.add_mul,Nat.mul_assoc D,Nat.add_assoc,Nat.add_assoc]
theorem jy {x y:List Nat}(hx:x.length=4) (hy:y.length=4) :
  (y6 x y [0,0,0,0]).length=4∧W64 (y6 x y [0,0,0,0])∧(num x*num y<18446744073709551616 ^ 4→num (y6 x y [0,0,0,0])=num x*num y):=by
 have h:=nI x y [0,0,0,0] (by simp[hx]) (by simp[hy]) (by simp[W64])
 refine⟨by simpa using h.1,h.2.1,fun hb=>?_⟩
 have h2:=VW h.2.1;have e:=h.2.2;have hz:num [0,0,0,0]=0:=by decide
 rw[h.1]at h2
 simp only[List.length_cons,List.length_nil,hz,Nat.zero_add,Nat.reduceAdd]at h2 e
 rwa [Nat.mod_eq_of_lt h2,Nat.mod_eq_of_lt hb]at e
theorem dI {n a b g:Nat}(hn:n≠0) (h1:a ^ n≤g) (h2:g<(a+1) ^ n) (h3:b ^ n≤g) (h4:g<(b+1) ^ n):a=b:=by
 rcases Nat.lt_trichotomy a b with h | h | h
 ·have:=Nat.pow_le_pow_left (show a+1≤b by omega) n
  omega
 ·exact h
 have:=Nat.pow_le_pow_left (show b+1≤a by omega) n
 omega
theorem Ua {x y z c:Nat}(hx:x<18446744073709551616) (hy:y<18446744073709551616) (hz:z<18446744073709551616) (hc:c<18446744073709551616) :
  x*y/18446744073709551616+(x*y%18446744073709551616+c)/18446744073709551616<18446744073709551616∧
  x*y/18446744073709551616+(x*y%18446744073709551616+c)/18446744073709551616+(z+(x*y%18446744073709551616+c)%18446744073709551616)/18446744073709551616=(z+x*y+c)/18446744073709551616∧
  (z+(x*y%18446744073709551616+c)%18446744073709551616)%18446744073709551616=(z+x*y+c)%18446744073709551616∧(z+x*y+c)/18446744073709551616<18446744073709551616:=by
 have:=Nat.mul_le_mul (show x≤18446744073709551615 by omega) (show y≤18446744073709551615 by omega)
 generalize x*y=p at *
 omega
end Go.Proofs.YtliomcphdnppnaaGreatDoor
namespace Go.Proofs.YtliomcphdnppnaaGreatDoor
def vw:List Nat:=[2,3,5,7,11,13,17,19,23,29,31,37,41,43,47,53,59,61,67,71,73,79,83,89,97,101,103,107,109,113,127,131,137,139,149,151,157,163,167,173,179,181,191,193,197,199,211,223,227,229,233,239,241,251,257,263,269,271,277,281,283,293,307,311,313,317,331,337,347,349,353,359,367,373,379,383,389,397,401,409]
def sE:List Nat:=[4794697086780616226,8158064640168781261,13096744586834688815,16840607885511220156,4131703408338449720,6480981068601479193,10538285296894168987,12329834152419229976,15566598209576043074,1334009975649890238,2608012711638119052,6128411473006802146,8268148722764581231,9286055187155687089,11230858885718282805,13951009754708518548,16472876342353939154,17275323862435702243,1135362057144423861,2597628984639134821,3308224258029322869,5365058923640841347,6679025012923562964,8573033837759648693,10970295158949994411,12119686244451234320,12683024718118986047,13788192230050041572,14330467153632333762,15395433587784984357,489312712824947311,1452737877330783856,2861767655752347644,3322285676063803686,5560940570517711597,5996557281743188959,7280758554555802590,8532644243296465576,9350256976987008742,10552545826968843579,11727347734174303076,12113106623233404929,14000437183269869457,14369950271660146224,15101387698204529176,15463397548674623760,17586052441742319658,1182934255886127544,1847814050463011016,2177327727835720531,2830643537854262169,3796741975233480872,4115178125766777443,5681478168544905931,6601373596472566643,7507060721942968483,8399075790359081724,8693463985226723168,9568029438360202098,10144078919501101548,10430055236837252648,11840083180663258601,13761210420658862357,14299343276471374635,14566680578165727644,15097957966210449927,16922976911328602910,17689382322260857208,500013540394364858,748580250866718886,1242879168328830382,1977374033974150939,2944078676154940804,3659926193048069267,4368137639120453308,4836135668995329356,5532061633213252278,6448918945643986474,6902733635092675308,7801388544844847127]
def vy:List Nat:=[7640891576956012808,13503953896175478587,4354685564936845355,11912009170470909681,5840696475078001361,11170449401992604703,2270897969802886507,6620516959819538809]
def pZ (n p c:Nat):Bool:=(List.range 21).any fun w=>decide ((w*18446744073709551616+c) ^ n≤p*18446744073709551616 ^ n)&&decide (p*18446744073709551616 ^ n<(w*18446744073709551616+c+1) ^ n)
end Go.Proofs.YtliomcphdnppnaaGreatDoor
namespace Go.Proofs.YtliomcphdnppnaaGreatDoor
def yJ (l:List Nat) (i:Nat):Nat:=l.getD i 0
theorem fV {l:List Nat}(h:W64 l) (i:Nat):yJ l i<18446744073709551616:=by
 unfold yJ
 rcases Nat.lt_or_ge i l.length with h1 | h1
 ·rw[List.getD_eq_getElem?_getD,List.getElem?_eq_getElem h1]
  exact h _ (List.getElem_mem h1)
 rw[List.getD_eq_getElem?_getD,List.getElem?_eq_none h1];decide
theorem tZ {l:List Nat}{i:Nat}(h:i<l.length):l.drop i=yJ l i::l.drop (i+1):=by
 rw[List.drop_eq_getElem_cons h]
 simp[yJ,h]
theorem W64.set {l:List Nat}(h:W64 l) (i:Nat) {n:Nat}(hn:n<18446744073709551616):W64 (l.set i n):=fun a ha=>by
 rcases List.mem_or_eq_of_mem_set ha with h1 | h1
 ·exact h a h1
 rw[h1];exact hn
theorem eN {l:List Nat}{k u:Nat}(h:k<l.length):(l.set k u).take (k+1)=l.take k++[u]∧(l.set k u).drop (k+1)=l.drop (k+1):=by
 have e:l.set k u=l.take k++u::l.drop (k+1):=by rw[List.set_eq_take_append_cons_drop,if_pos h]
 have hl:(l.take k).length=k:=by rw[List.length_take];omega
 constructor
 ·rw[e,List.take_append,hl,List.take_of_length_le (by omega),Nat.add_sub_cancel_left];rfl
 rw[e,List.drop_append,hl,List.drop_of_length_le (by omega),Nat.add_sub_cancel_left];rfl
theorem dS {zs ys:List Nat}{x c k j:Nat}(hk:k<zs.length) (hj:j<ys.length) :
  (zs.set k ((yJ zs k+x*yJ ys j+c)%18446744073709551616)).take (k+1)++wj x (ys.drop (j+1)) ((zs.set k ((yJ zs k+x*yJ ys j+c)%18446744073709551616)).drop (k+1)) ((yJ zs k+x*yJ ys j+c)/18446744073709551616) =
  zs.take k++wj x (ys.drop j) (zs.drop k) c:=by
 rw[(eN hk).1,(eN hk).2,tZ hk,tZ hj,wj,List.append_assoc];rfl
theorem dT {x y zs zs':List Nat}{i:Nat}(hi:i<x.length) (hz:i<zs.length) (hy:0<y.length) (h:zs'=zs.take i++wj (yJ x i) y (zs.drop i) 0) :
  zs'.take (i+1)++y6 (x.drop (i+1)) y (zs'.drop (i+1))=zs.take i++y6 (x.drop i) y (zs.drop i):=by
 have hl:(zs.take i).length=i:=by rw[List.length_take];omega
 obtain⟨a,r,hr⟩:∃ a r,wj (yJ x i) y (zs.drop i) 0=a::r:=by
  rw[tZ hz]
  cases y with
  | nil=>simp at hy
  | cons b y=>exact⟨_,_,rfl⟩
 have e1:zs'.take (i+1)=zs.take i++[a]:=by
  rw[h,hr,List.take_append,hl,List.take_of_length_le (by omega),Nat.add_sub_cancel_left];rfl
 have e2:zs'.drop (i+1)=r:=by
  rw[h,hr,List.drop_append,hl,List.drop_of_length_le (by omega),Nat.add_sub_cancel_left];rfl
 rw[e1,e2,tZ hi];rw[tZ hz]at hr⊢;rw[y6,hr,List.append_assoc];rfl
theorem ag (x:Nat) (ys:List Nat) (c:Nat):wj x ys [] c=[]:=by cases ys <;> rfl
theorem dF (ys zs:List Nat):y6 [] ys zs=zs:=by cases zs <;> rfl
end Go.Proofs.YtliomcphdnppnaaGreatDoor
namespace Go.Proofs.YtliomcphdnppnaaGreatDoor
open Go.RowKit
def uJ (a b x:Int):Int:=bits .or .u32 (x*a%4294967296) (x/b)
theorem Zt (x:Int) (w:World) :
  Calls Tryz.prog 164 #[.int .u32 x,.int .i64 (-17)] w fun e w'=>e=.returned (.int .u32 (uJ 32768 131072 x))∧w=w':=by
 have e1:bits .and .u64 (IntKind.u64.wrap (-17)) 31=15:=by kernel_rfl
 have e2:IntKind.u64.wrap (32-15)=17:=by kernel_rfl
 go_enter Tryz.func164,Tryz.ntmps164
 go_wp2_with fail
 go_ret
 exact⟨rfl,rfl⟩
theorem YJ (x:Int) (w:World) :
  Calls Tryz.prog 129 #[.int .u32 x,.int .i64 17] w fun e w'=>e=.returned (.int .u32 (uJ 32768 131072 x))∧w=w':=by
 have R:=Hh (Zt x w);go_enter Tryz.func129,Tryz.ntmps129
 go_wp2_with fail
 refine R.out.mono ?_
 rintro e w1 ⟨rfl,rfl⟩
 go_wp2_with fail
 go_ret
 exact⟨rfl,rfl⟩
theorem Zv (x:Int) (w:World) :
  Calls Tryz.prog 164 #[.int .u32 x,.int .i64 (-19)] w fun e w'=>e=.returned (.int .u32 (uJ 8192 524288 x))∧w=w':=by
 have e1:bits .and .u64 (IntKind.u64.wrap (-19)) 31=13:=by kernel_rfl
 have e2:IntKind.u64.wrap (32-13)=19:=by kernel_rfl
 go_enter Tryz.func164,Tryz.ntmps164
 go_wp2_with fail
 go_ret
 exact⟨rfl,rfl⟩
theorem YL (x:Int) (w:World) :
  Calls Tryz.prog 129 #[.int .u32 x,.int .i64 19] w fun e w'=>e=.returned (.int .u32 (uJ 8192 524288 x))∧w=w':=by
 have R:=Hh (Zv x w);go_enter Tryz.func129,Tryz.ntmps129
 go_wp2_with fail
 refine R.out.mono ?_
 rintro e w1 ⟨rfl,rfl⟩
 go_wp2_with fail
 go_ret
 exact⟨rfl,rfl⟩
theorem XD (x:Int) (w:World) :
  Calls Tryz.prog 164 #[.int .u32 x,.int .i64 (-7)] w fun e w'=>e=.returned (.int .u32 (uJ 33554432 128 x))∧w=w':=by
 have e1:bits .and .u64 (IntKind.u64.wrap (-7)) 31=25:=by kernel_rfl
 have e2:IntKind.u64.wrap (32-25)=7:=by kernel_rfl
 go_enter Tryz.func164,Tryz.ntmps164
 go_wp2_with fail
 go_ret
 exact⟨rfl,rfl⟩
theorem Up (x:Int) (w:World) :
  Calls Tryz.prog 129 #[.int .u32 x,.int .i64 7] w fun e w'=>e=.returned (.int .u32 (uJ 33554432 128 x))∧w=w':=by
 have R:=Hh (XD x w);go_enter Tryz.func129,Tryz.ntmps129
 go_wp2_with fail
 refine R.out.mono ?_
 rintro e w1 ⟨rfl,rfl⟩
 go_wp2_with fail
 go_ret
 exact⟨rfl,rfl⟩
theorem Zu (x:Int) (w:World) :
  Calls Tryz.prog 164 #[.int .u32 x,.int .i64 (-18)] w fun e w'=>e=.returned (.int .u32 (uJ 16384 262144 x))∧w=w':=by
 have e1:bits .and .u64 (IntKind.u64.wrap (-18)) 31=14:=by kernel_rfl
 have e2:IntKind.u64.wrap (32-14)=18:=by kernel_rfl
 go_enter Tryz.func164,Tryz.ntmps164
 go_wp2_with fail
 go_ret
 exact⟨rfl,rfl⟩
theorem YK (x:Int) (w:World) :
  Calls Tryz.prog 129 #[.int .u32 x,.int .i64 18] w fun e w'=>e=.returned (.int .u32 (uJ 16384 262144 x))∧w=w':=by
 have R:=Hh (Zu x w);go_enter Tryz.func129,Tryz.ntmps129
 go_wp2_with fail
 refine R.out.mono ?_
 rintro e w1 ⟨rfl,rfl⟩
 go_wp2_with fail
 go_ret
 exact⟨rfl,rfl⟩
theorem XC (x:Int) (w:World) :
  Calls Tryz.prog 164 #[.int .u32 x,.int .i64 (-6)] w fun e w'=>e=.returned (.int .u32 (uJ 67108864 64 x))∧w=w':=by
 have e1:bits .and .u64 (IntKind.u64.wrap (-6)) 31=26:=by kernel_rfl
 have e2:IntKind.u64.wrap (32-26)=6:=by kernel_rfl
 go_enter Tryz.func164,Tryz.ntmps164
 go_wp2_with fail
 go_ret
 exact⟨rfl,rfl⟩
theorem Uo (x:Int) (w:World) :
  Calls Tryz.prog 129 #[.int .u32 x,.int .i64 6] w fun e w'=>e=.returned (.int .u32 (uJ 67108864 64 x))∧w=w':=by
 have R:=Hh (XC x w);go_enter Tryz.func129,Tryz.ntmps129
 go_wp2_with fail
 refine R.out.mono ?_
 rintro e w1 ⟨rfl,rfl⟩
 go_wp2_with fail
 go_ret
 exact⟨rfl,rfl⟩
theorem Zr (x:Int) (w:World) :
  Calls Tryz.prog 164 #[.int .u32 x,.int .i64 (-11)] w fun e w'=>e=.returned (.int .u32 (uJ 2097152 2048 x))∧w=w':=by
 have e1:bits .and .u64 (IntKind.u64.wrap (-11)) 31=21:=by kernel_rfl
 have e2:IntKind.u64.wrap (32-21)=11:=by kernel_rfl
 go_enter Tryz.func164,Tryz.ntmps164
 go_wp2_with fail
 go_ret
 exact⟨rfl,rfl⟩
theorem YH (x:Int) (w:World) :
  Calls Tryz.prog 129 #[.int .u32 x,.int .i64 11] w fun e w'=>e=.returned (.int .u32 (uJ 2097152 2048 x))∧w=w':=by
 have R:=Hh (Zr x w);go_enter Tryz.func129,Tryz.ntmps129
 go_wp2_with fail
 refine R.out.mono ?_
 rintro e w1 ⟨rfl,rfl⟩
 go_wp2_with fail
 go_ret
 exact⟨rfl,rfl⟩
theorem Zx (x:Int) (w:World) :
  Calls Tryz.prog 164 #[.int .u32 x,.int .i64 (-25)] w fun e w'=>e=.returned (.int .u32 (uJ 128 33554432 x))∧w=w':=by
 have e1:bits .and .u64 (IntKind.u64.wrap (-25)) 31=7:=by kernel_rfl
 have e2:IntKind.u64.wrap (32-7)=25:=by kernel_rfl
 go_enter Tryz.func164,Tryz.ntmps164
 go_wp2_with fail
 go_ret
 exact⟨rfl,rfl⟩
theorem YN (x:Int) (w:World) :
  Calls Tryz.prog 129 #[.int .u32 x,.int .i64 25] w fun e w'=>e=.returned (.int .u32 (uJ 128 33554432 x))∧w=w':=by
 have R:=Hh (Zx x w);go_enter Tryz.func129,Tryz.ntmps129
 go_wp2_with fail
 refine R.out.mono ?_
 rintro e w1 ⟨rfl,rfl⟩
 go_wp2_with fail
 go_ret
 exact⟨rfl,rfl⟩
theorem XB (x:Int) (w:World) :
  Calls Tryz.prog 164 #[.int .u32 x,.int .i64 (-2)] w fun e w'=>e=.returned (.int .u32 (uJ 1073741824 4 x))∧w=w':=by
 have e1:bits .and .u64 (IntKind.u64.wrap (-2)) 31=30:=by kernel_rfl
 have e2:IntKind.u64.wrap (32-30)=2:=by kernel_rfl
 go_enter Tryz.func164,Tryz.ntmps164
 go_wp2_with fail
 go_ret
 exact⟨rfl,rfl⟩
theorem Un (x:Int) (w:World) :
  Calls Tryz.prog 129 #[.int .u32 x,.int .i64 2] w fun e w'=>e=.returned (.int .u32 (uJ 1073741824 4 x))∧w=w':=by
 have R:=Hh (XB x w);go_enter Tryz.func129,Tryz.ntmps129
 go_wp2_with fail
 refine R.out.mono ?_
 rintro e w1 ⟨rfl,rfl⟩
 go_wp2_with fail
 go_ret
 exact⟨rfl,rfl⟩
theorem Zs (x:Int) (w:World) :
  Calls Tryz.prog 164 #[.int .u32 x,.int .i64 (-13)] w fun e w'=>e=.returned (.int .u32 (uJ 524288 8192 x))∧w=w':=by
 have e1:bits .and .u64 (IntKind.u64.wrap (-13)) 31=19:=by kernel_rfl
 have e2:IntKind.u64.wrap (32-19)=13:=by kernel_rfl
 go_enter Tryz.func164,Tryz.ntmps164
 go_wp2_with fail
 go_ret
 exact⟨rfl,rfl⟩
theorem YI (x:Int) (w:World) :
  Calls Tryz.prog 129 #[.int .u32 x,.int .i64 13] w fun e w'=>e=.returned (.int .u32 (uJ 524288 8192 x))∧w=w':=by
 have R:=Hh (Zs x w);go_enter Tryz.func129,Tryz.ntmps129
 go_wp2_with fail
 refine R.out.mono ?_
 rintro e w1 ⟨rfl,rfl⟩
 go_wp2_with fail
 go_ret
 exact⟨rfl,rfl⟩
theorem Zw (x:Int) (w:World) :
  Calls Tryz.prog 164 #[.int .u32 x,.int .i64 (-22)] w fun e w'=>e=.returned (.int .u32 (uJ 1024 4194304 x))∧w=w':=by
 have e1:bits .and .u64 (IntKind.u64.wrap (-22)) 31=10:=by kernel_rfl
 have e2:IntKind.u64.wrap (32-10)=22:=by kernel_rfl
 go_enter Tryz.func164,Tryz.ntmps164
 go_wp2_with fail
 go_ret
 exact⟨rfl,rfl⟩
theorem YM (x:Int) (w:World) :
  Calls Tryz.prog 129 #[.int .u32 x,.int .i64 22] w fun e w'=>e=.returned (.int .u32 (uJ 1024 4194304 x))∧w=w':=by
 have R:=Hh (Zw x w);go_enter Tryz.func129,Tryz.ntmps129
 go_wp2_with fail
 refine R.out.mono ?_
 rintro e w1 ⟨rfl,rfl⟩
 go_wp2_with fail
 go_ret
 exact⟨rfl,rfl⟩
end Go.Proofs.YtliomcphdnppnaaGreatDoor
