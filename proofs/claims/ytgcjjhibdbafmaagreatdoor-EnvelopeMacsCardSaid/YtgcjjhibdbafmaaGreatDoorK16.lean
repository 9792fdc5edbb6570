/- squeezed. An array by value, its element. Th -/
import Derived.ChangeKeysEq
import Derived.Test.YtgcjjhibdbafmaaGreatDoorK01
import Derived.KernelRfl
import Derived.Deep.Cut
set_option linter.unusedVariables false
set_option linter.unusedSimpArgs false
set_option maxRecDepth 100000
set_option maxHeartbeats 6400000
namespace Go.Proofs.YtgcjjhibdbafmaaGreatDoor
open Go.RowKit
theorem IsBytes.take' {H:Snap}{A:Option Addr}{c:Nat}{l:List UInt8}(h:IsBytes H A c l) (m:Nat):IsBytes H A c (l.take m):=by
 refine⟨by have:=h.le;rw[List.length_take];omega,h.max,fun hne=>?_⟩
 obtain⟨b,off,e,hc⟩:=h.row (by intro h0;rw[List.map_eq_nil_iff]at h0;subst h0;simp at hne)
 refine⟨b,off,e,fun j v hj=>hc j v ?_⟩
 rw[List.map_take,List.getElem?_take]at hj
 split at hj
 ·exact hj
 ·cases hj
theorem IsBytes.drop' {H:Snap}{A:Option Addr}{c:Nat}{l:List UInt8}(h:IsBytes H A c l) (k:Nat) (hk:k≤l.length):IsBytes H (if c=k then A else Option.map (fun x=>x.add k) A) (c-k) (l.drop k):=by
 have hle:=h.le;have hmax:=h.max
 refine⟨by rw[List.length_drop];omega,by omega,fun hne=>?_⟩
 have hkl:k<l.length:=by
  rcases Nat.lt_or_ge k l.length with h1 | h1
  ·exact h1
  ·rw[List.drop_eq_nil_of_le h1]at hne;exact absurd rfl hne
 obtain⟨b,off,rfl,hc⟩:=h.row (by intro h0;rw[List.map_eq_nil_iff]at h0;subst h0;simp at hkl);rw[if_neg (by omega)]
 refine⟨b,off+k,by rw[Option.map_some,addr_add],fun j v hj=>?_⟩
 rw[List.map_drop,List.getElem?_drop]at hj;have:=hc (k+j) v hj;rwa [← Nat.add_assoc]at this
theorem run_index_array_in {P:Program}(t e:TypeId) (n:Nat) (cs:Array Value) (k:IntKind) (j:Nat) (i:Int) (u:Value) (h:P.underlying t=some (.array n e)) (he:P.plainKey e=true) (i0:TypeInfo) (hi0:P.info? e=some i0) (h1:i0.size=1) (hi:i=(j:Int)) (hj:j<n) (hv:cs[j]? = some u) (w:World) :
  (Instr.index t (.agg cs) (.int k i)).run P w=.ok u w:=by
 subst hi;have hn:(0:Int)≤(j:Int)∧(j:Int)<(n:Int):=by omega
 have hp:=run_part_plain (P:=P) (w:=w) he hv
 have e1:(Instr.index t (.agg cs) (.int k (j:Int))).run P w=(part e cs j).run P w:=by
  simp[Instr.index,run_underlying h,asIntOf,hn,hj,sizeOf,typeInfo,hi0,h1,go_sem]
 rw[e1,hp]
theorem run_index8u (w:World) (cs:Array Value) (j:Nat) (u:Value) (i:Int) (hi:i=(j:Int)) (hj:j<8) (hv:cs[j]? = some u) :
  (Instr.index 116 (.agg cs) (.int .i64 i)).run Tryz.prog w=.ok u w:=by
 obtain⟨i0,hi0,hz0,hz1,hz2⟩:=info_parts (show(Tryz.prog.info? 114).map (fun i=>(i.zero,i.size,i.bytes))=some (some (.int .u32 0),1,4) by kernel_rfl)
 exact run_index_array_in _ _ 8 cs .i64 j i u Tryz.underlying116 (by kernel_rfl) i0 hi0 hz1 hi hj hv w
theorem run_index8w (w:World) (cs:Array Value) (j:Nat) (u:Value) (i:Int) (hi:i=(j:Int)) (hj:j<8) (hv:cs[j]? = some u) :
  (Instr.index 111 (.agg cs) (.int .i64 i)).run Tryz.prog w=.ok u w:=by
 obtain⟨i0,hi0,hz0,hz1,hz2⟩:=info_parts (show(Tryz.prog.info? 22).map (fun i=>(i.zero,i.size,i.bytes))=some (some (.int .u64 0),1,8) by kernel_rfl)
 exact run_index_array_in _ _ 8 cs .i64 j i u Tryz.underlying111 (by kernel_rfl) i0 hi0 hz1 hi hj hv w
def byteAt (n s:Nat):UInt8:=UInt8.ofNat (n/2 ^ s)
def be64 (n:Nat):List UInt8:=[byteAt n 56,byteAt n 48,byteAt n 40,byteAt n 32,byteAt n 24,byteAt n 16,byteAt n 8,byteAt n 0]
def padN (n:Nat):Nat:=(119-n%64)%64
def lenP (n:Nat):Nat:=n*8%18446744073709551616
def padP (l:List UInt8):List UInt8:=l++[128]++List.replicate (padN l.length) 0++be64 (lenP l.length)
theorem be64_len (n:Nat):(be64 n).length=8:=rfl
theorem padP_len (l:List UInt8):(padP l).length=l.length+9+padN l.length∧(padP l).length%64=0:=by
 have h:(padP l).length=l.length+9+padN l.length:=by
  simp only[padP,List.length_append,List.length_replicate,be64_len,List.length_singleton]
  omega
 refine⟨h, ?_⟩
 rw[h,padN]
 omega
theorem padN_lt (n:Nat):padN n<64:=Nat.mod_lt _ (by decide)
theorem padN_go {n z:Nat}(hz:z≤padN n) (h:¬ (n+1+z+8)%64=0):z<padN n:=by
 unfold padN at *
 omega
theorem padN_stop {n z:Nat}(hz:z≤padN n) (h:(n+1+z+8)%64=0):z=padN n:=by
 unfold padN at *
 omega
def lenS:Value→Nat
 | .slice _ m _=>m
 | _=>0
theorem byteAt_val (N s:Nat) (d:Int) (hd:d=((2 ^ s:Nat):Int)):byteV (byteAt N s)=.int .u8 ((N:Int)/d%256):=by
 subst hd;rw[byteV,byteAt,UInt8.toNat_ofNat'];rfl
def zerosP (l:List UInt8) (z:Nat):List UInt8:=l++[128]++List.replicate z 0
theorem zerosP_succ (l:List UInt8) (z:Nat):zerosP l z++[0]=zerosP l (z+1):=by
 rw[zerosP,zerosP,List.replicate_succ',List.append_assoc]
theorem zerosP_len (l:List UInt8) (z:Nat):(zerosP l z).length=l.length+1+z:=by simp[zerosP];omega
theorem take_be64 (N k:Nat) (h:k<8):(be64 N).take k++[(be64 N).getD k 0]=(be64 N).take (k+1):=by
 obtain rfl | rfl | rfl | rfl | rfl | rfl | rfl | rfl:k=0∨k=1∨k=2∨k=3∨k=4∨k=5∨k=6∨k=7:=by omega
 all_goals rfl
theorem sha_padded {A:Option Addr}{c:Nat}{l:List UInt8}{n:Nat}(hn:n=l.length) (hmax:l.length≤1099511627) (w:World) (hS:Src w A (l.map byteV)) :
  Calls Tryz.prog 84 #[.slice A n c,.int .i64 64,.int .i64 8] w fun e w'=>∃ r,e=.returned r∧Fresh w (padP l) r w':=by
 obtain⟨i0,hi0,hz0,hz1,hz2⟩:=info_parts info_u8;have HN:=Hh (And.intro hn hmax);obtain⟨n2,hn2⟩:∃ n2,n+128=n2:=⟨_,rfl⟩
 have hw1:IntKind.i64.wrap ((n:Int)+128)=(n2:Int):=by rw[← hn2,Int.natCast_add];exact IntWalk.i64_in _ (by omega)
 have HN2:=Hh hn2;obtain⟨N,hN⟩:∃ N,lenP l.length=N:=⟨_,rfl⟩
 have hw2:IntKind.u64.wrap ((n:Int))=(n:Int):=IntWalk.u64_in _ (by omega);have hw3:IntKind.u64.wrap ((n:Int)*8)=(N:Int):=by rw[← hN,lenP,IntKind.wrap_u64,hn];omega
 have HNN:=Hh hN;clear hn2 hn hmax hN;go_enter Tryz.func84,Tryz.ntmps84
 go_wp2_with (at_make;refine stop_in ?_)
 refine wpList_make_own w rfl _ _ 23 rfl w.heap.size 5 i0 _ 1 Tryz.underlying23 hi0 hz0 hz1 .i64 .i64 (n2:Int) n2 rfl rfl rfl (by rw[hz2];have:=HN.out;have:=HN2.out;omega) (by have:=HN.out;have:=HN2.out;simp only[maxLen];omega) (Nat.le_refl _) fun w1 hO1 hg1=>?_
 have hO:OwnB w1 w.heap.size (.slice (some ⟨w.heap.size,0,none⟩) 0 n2) []:=hO1;have hb1:=grown_none hg1;have hS1:=hS.below hb1;clear hO1 hg1 hi0 hz0 hz1 hz2 hS hw1;go_wp2_with (at_builtin;refine stop_in ?_)
 refine wpList_app_bytes rfl (.tmp 15) (.tmp 16) rfl w.heap.size _ [] rfl hO A n c l rfl HN.out.1 hS1 (by have:=HN.out.2;simp;omega) hb1.size fun v' w2 hO2 hg2 hat2=>?_
 rw[List.nil_append]at hO2;have hb2:=below_of_grown hb1 hg2 (fun q hq=>(hO.lt q hq).1);have hO3:=hO2.alloc (.cells #[.int .u8 128] 5);have hb3:=hb2.alloc hb2.size (.cells #[.int .u8 128] 5);clear hO hb1 hS1 hg2 hat2;go_wp2_with (at_builtin;refine stop_in ?_)
 refine wpList_app_bytes rfl (.tmp 17) (.tmp 18) rfl w.heap.size _ l rfl hO3 _ 1 _ [128] rfl rfl (Src.new _ _ _ _ rfl _ rfl) (by have:=HN.out.2;simp;omega) hb3.size fun v3 w3 hO4 hg3 hat3=>?_
 have hb4:=below_of_grown hb3 hg3 (fun q hq=>(hO2.lt q hq).1);replace hO4:OwnB w3 w.heap.size v3 (zerosP l 0):=by rw[zerosP];simpa using hO4
 obtain⟨A3,c3,rfl,_⟩:=hO4.form;rw[zerosP_len]at hO4⊢;clear hO2 hO3 hb2 hb3 hg3 hat3;go_wp2_with fail
 go_loopw [7] (fun v7 wr=>∃ (z m:Nat) (VA:Option Addr) (vc:Nat),v7=.slice VA m vc∧Hid (m=l.length+1+z)∧Hid (z≤padN l.length)∧OwnB wr w.heap.size (.slice VA m vc) (zerosP l z)∧Below w.heap.size w wr) (fun v7 _=>l.length+65-lenS v7)
 case atStart=>exact⟨0,_,A3,c3,rfl,rfl,Nat.zero_le _,hO4,hb4⟩
 case round =>
  clear hO4 hb4;obtain⟨z,m,VA,vc,rfl,HM,HZ,hO,hb⟩:=hrel;have HB:=Hh (padN_lt l.length);obtain⟨m8,hm8⟩:∃ m8,m+8=m8:=⟨_,rfl⟩
  have hw4:IntKind.i64.wrap ((m:Int)+8)=(m8:Int):=by rw[← hm8,Int.natCast_add];exact IntWalk.i64_in _ (by have:=HM.out;have:=HZ.out;have:=HB.out;have:=HN.out;omega)
  have HM8:=Hh hm8;clear hm8;obtain⟨r,hr⟩:∃ r,m8%64=r:=⟨_,rfl⟩
  have hr1:(m8:Int).tmod 64=(r:Int):=by rw[← hr];exact(Int.ofNat_tmod m8 64).symm
  have hr2:(m8:Int)%64=(r:Int):=by rw[← hr];omega
  have HR:=Hh hr;clear hr
  by_cases h0:r=0
  ·subst h0;have HST:Hid (z=padN l.length):=padN_stop HZ.out (by have:=HR.out;have:=HM8.out;have:=HM.out;omega);go_wp2_with fail
   go_loopw [7,9] (fun v7 v9 wx=>∃ (k mm:Nat) (VB:Option Addr) (vb:Nat),v7=.slice VB mm vb∧v9=.int .i64 (56-8*(k:Int))∧k≤8∧Hid (mm=m+k)∧OwnB wx w.heap.size (.slice VB mm vb) (zerosP l z++(be64 N).take k)∧Below w.heap.size w wx) (fun v7 _ _=>m+8-lenS v7)
   case atStart=>exact⟨0,m,VA,vc,rfl,rfl,by omega,rfl,by simpa using hO,hb⟩
   case round =>
    clear hO hb;obtain⟨k,mm,VB,vb,rfl,rfl,hk,HMM,hO,hb⟩:=hrel
    have HLL:Hid ((zerosP l z++(be64 N).take k).length≤1099511627700):=by
     have:=HM.out;have:=HMM.out;have:=HN.out;have:=HZ.out;have:=HB.out
     rw[Hid,List.length_append,zerosP_len,List.length_take,be64_len]
     omega
    have HT:=Hh (fun h=>take_be64 N k h)
    rcases(show k=0∨k=1∨k=2∨k=3∨k=4∨k=5∨k=6∨k=7∨k=8 by omega) with rfl | rfl | rfl | rfl | rfl | rfl | rfl | rfl | rfl
    ·go_wp2_with (at_builtin;refine stop_in ?_)
     unfold Stopped
     have hO1:=hO.alloc (.cells #[.int .u8 ((N:Int)/72057594037927936%256)] 5);have hb1:=hb.alloc hb.size (.cells #[.int .u8 ((N:Int)/72057594037927936%256)] 5)
     refine wpList_app_bytes rfl (.tmp 40) (.tmp 46) rfl w.heap.size _ _ rfl hO1 _ 1 _ [byteAt N 56] rfl rfl (Src.new _ _ _ _ rfl _ (by simp only[List.map_cons,List.map_nil];rw[byteAt_val N 56 72057594037927936 rfl])) (by have:=HLL.out;simp only[List.length_singleton];omega) hb1.size fun v' w5 hO5 hg5 hat5=>?_
     have hb5:=below_of_grown hb1 hg5 (fun q hq=>(hO.lt q hq).1);rw[List.append_assoc,show [byteAt N 56]=[(be64 N).getD 0 0] from rfl,HT.out (by omega)]at hO5;obtain⟨A5,c5,rfl,_⟩:=hO5.form
     have HL5:Hid ((zerosP l z++(be64 N).take (0+1)).length=m+1):=by
      have:=HM.out;rw[Hid,List.length_append,zerosP_len,List.length_take,be64_len]
      omega
     rw[HL5.out]at hO5⊢;clear hO hb hO1 hb1 hg5 hat5;go_wp2_with fail
     go_roundw
     case rel=>exact⟨1,m+1,A5,c5,rfl,by go_num,by omega,rfl,hO5,hb5⟩
     case measure=>have:=HMM.out;simp only[lenS];omega
    ·go_wp2_with (at_builtin;refine stop_in ?_)
     unfold Stopped
     have hO1:=hO.alloc (.cells #[.int .u8 ((N:Int)/281474976710656%256)] 5);have hb1:=hb.alloc hb.size (.cells #[.int .u8 ((N:Int)/281474976710656%256)] 5)
     refine wpList_app_bytes rfl (.tmp 40) (.tmp 46) rfl w.heap.size _ _ rfl hO1 _ 1 _ [byteAt N 48] rfl rfl (Src.new _ _ _ _ rfl _ (by simp only[List.map_cons,List.map_nil];rw[byteAt_val N 48 281474976710656 rfl])) (by have:=HLL.out;simp only[List.length_singleton];omega) hb1.size fun v' w5 hO5 hg5 hat5=>?_
     have hb5:=below_of_grown hb1 hg5 (fun q hq=>(hO.lt q hq).1);rw[List.append_assoc,show [byteAt N 48]=[(be64 N).getD 1 0] from rfl,HT.out (by omega)]at hO5;obtain⟨A5,c5,rfl,_⟩:=hO5.form
     have HL5:Hid ((zerosP l z++(be64 N).take (1+1)).length=m+2):=by
      have:=HM.out;rw[Hid,List.length_append,zerosP_len,List.length_take,be64_len]
      omega
     rw[HL5.out]at hO5⊢;clear hO hb hO1 hb1 hg5 hat5;go_wp2_with fail
     go_roundw
     case rel=>exact⟨2,m+2,A5,c5,rfl,by go_num,by omega,rfl,hO5,hb5⟩
     case measure=>have:=HMM.out;simp only[lenS];omega
    ·go_wp2_with (at_builtin;refine stop_in ?_)
     unfold Stopped
     have hO1:=hO.alloc (.cells #[.int .u8 ((N:Int)/1099511627776%256)] 5);have hb1:=hb.alloc hb.size (.cells #[.int .u8 ((N:Int)/1099511627776%256)] 5)
     refine wpList_app_bytes rfl (.tmp 40) (.tmp 46) rfl w.heap.size _ _ rfl hO1 _ 1 _ [byteAt N 40] rfl rfl (Src.new _ _ _ _ rfl _ (by simp only[List.map_cons,List.map_nil];rw[byteAt_val N 40 1099511627776 rfl])) (by have:=HLL.out;simp only[List.length_singleton];omega) hb1.size fun v' w5 hO5 hg5 hat5=>?_
     have hb5:=below_of_grown hb1 hg5 (fun q hq=>(hO.lt q hq).1);rw[List.append_assoc,show [byteAt N 40]=[(be64 N).getD 2 0] from rfl,HT.out (by omega)]at hO5;obtain⟨A5,c5,rfl,_⟩:=hO5.form
     have HL5:Hid ((zerosP l z++(be64 N).take (2+1)).length=m+3):=by
      have:=HM.out;rw[Hid,List.length_append,zerosP_len,List.length_take,be64_len]
      omega
     rw[HL5.out]at hO5⊢;clear hO hb hO1 hb1 hg5 hat5;go_wp2_with fail
     go_roundw
     case rel=>exact⟨3,m+3,A5,c5,rfl,by go_num,by omega,rfl,hO5,hb5⟩
     case measure=>have:=HMM.out;simp only[lenS];omega
    ·go_wp2_with (at_builtin;refine stop_in ?_)
     unfold Stopped
     have hO1:=hO.alloc (.cells #[.int .u8 ((N:Int)/4294967296%256)] 5);have hb1:=hb.alloc hb.size (.cells #[.int .u8 ((N:Int)/4294967296%256)] 5)
     refine wpList_app_bytes rfl (.tmp 40) (.tmp 46) rfl w.heap.size _ _ rfl hO1 _ 1 _ [byteAt N 32] rfl rfl (Src.new _ _ _ _ rfl _ (by simp only[List.map_cons,List.map_nil];rw[byteAt_val N 32 4294967296 rfl])) (by have:=HLL.out;simp only[List.length_singleton];omega) hb1.size fun v' w5 hO5 hg5 hat5=>?_
     have hb5:=below_of_grown hb1 hg5 (fun q hq=>(hO.lt q hq).1);rw[List.append_assoc,show [byteAt N 32]=[(be64 N).getD 3 0] from rfl,HT.out (by omega)]at hO5;obtain⟨A5,c5,rfl,_⟩:=hO5.form
     have HL5:Hid ((zerosP l z++(be64 N).take (3+1)).length=m+4):=by
      have:=HM.out;rw[Hid,List.length_append,zerosP_len,List.length_take,be64_len]
      omega
     rw[HL5.out]at hO5⊢;clear hO hb hO1 hb1 hg5 hat5;go_wp2_with fail
     go_roundw
     case rel=>exact⟨4,m+4,A5,c5,rfl,by go_num,by omega,rfl,hO5,hb5⟩
     case measure=>have:=HMM.out;simp only[lenS];omega
    ·go_wp2_with (at_builtin;refine stop_in ?_)
     unfold Stopped
     have hO1:=hO.alloc (.cells #[.int .u8 ((N:Int)/16777216%256)] 5);have hb1:=hb.alloc hb.size (.cells #[.int .u8 ((N:Int)/16777216%256)] 5)
     refine wpList_app_bytes rfl (.tmp 40) (.tmp 46) rfl w.heap.size _ _ rfl hO1 _ 1 _ [byteAt N 24] rfl rfl (Src.new _ _ _ _ rfl _ (by simp only[List.map_cons,List.map_nil];rw[byteAt_val N 24 16777216 rfl])) (by have:=HLL.out;simp only[List.length_singleton];omega) hb1.size fun v' w5 hO5 hg5 hat5=>?_
     have hb5:=below_of_grown hb1 hg5 (fun q hq=>(hO.lt q hq).1);rw[List.append_assoc,show [byteAt N 24]=[(be64 N).getD 4 0] from rfl,HT.out (by omega)]at hO5;obtain⟨A5,c5,rfl,_⟩:=hO5.form
     have HL5:Hid ((zerosP l z++(be64 N).take (4+1)).length=m+5):=by
      have:=HM.out;rw[Hid,List.length_append,zerosP_len,List.length_take,be64_len]
      omega
     rw[HL5.out]at hO5⊢;clear hO hb hO1 hb1 hg5 hat5;go_wp2_with fail
     go_roundw
     case rel=>exact⟨5,m+5,A5,c5,rfl,by go_num,by omega,rfl,hO5,hb5⟩
     case measure=>have:=HMM.out;simp only[lenS];omega
    ·go_wp2_with (at_builtin;refine stop_in ?_)
     unfold Stopped
     have hO1:=hO.alloc (.cells #[.int .u8 ((N:Int)/65536%256)] 5);have hb1:=hb.alloc hb.size (.cells #[.int .u8 ((N:Int)/65536%256)] 5)
     refine wpList_app_bytes rfl (.tmp 40) (.tmp 46) rfl w.heap.size _ _ rfl hO1 _ 1 _ [byteAt N 16] rfl rfl (Src.new _ _ _ _ rfl _ (by simp only[List.map_cons,List.map_nil];rw[byteAt_val N 16 65536 rfl])) (by have:=HLL.out;simp only[List.length_singleton];omega) hb1.size fun v' w5 hO5 hg5 hat5=>?_
     have hb5:=below_of_grown hb1 hg5 (fun q hq=>(hO.lt q hq).1);rw[List.append_assoc,show [byteAt N 16]=[(be64 N).getD 5 0] from rfl,HT.out (by omega)]at hO5;obtain⟨A5,c5,rfl,_⟩:=hO5.form
     have HL5:Hid ((zerosP l z++(be64 N).take (5+1)).length=m+6):=by
      have:=HM.out;rw[Hid,List.length_append,zerosP_len,List.length_take,be64_len]
      omega
     rw[HL5.out]at hO5⊢;clear hO hb hO1 hb1 hg5 hat5;go_wp2_with fail
     go_roundw
     case rel=>exact⟨6,m+6,A5,c5,rfl,by go_num,by omega,rfl,hO5,hb5⟩
     case measure=>have:=HMM.out;simp only[lenS];omega
    ·go_wp2_with (at_builtin;refine stop_in ?_)
     unfold Stopped
     have hO1:=hO.alloc (.cells #[.int .u8 ((N:Int)/256%256)] 5);have hb1:=hb.alloc hb.size (.cells #[.int .u8 ((N:Int)/256%256)] 5)
     refine wpList_app_bytes rfl (.tmp 40) (.tmp 46) rfl w.heap.size _ _ rfl hO1 _ 1 _ [byteAt N 8] rfl rfl (Src.new _ _ _ _ rfl _ (by simp only[List.map_cons,List.map_nil];rw[byteAt_val N 8 256 rfl])) (by have:=HLL.out;simp only[List.length_singleton];omega) hb1.size fun v' w5 hO5 hg5 hat5=>?_
     have hb5:=below_of_grown hb1 hg5 (fun q hq=>(hO.lt q hq).1);rw[List.append_assoc,show [byteAt N 8]=[(be64 N).getD 6 0] from rfl,HT.out (by omega)]at hO5;obtain⟨A5,c5,rfl,_⟩:=hO5.form
     have HL5:Hid ((zerosP l z++(be64 N).take (6+1)).length=m+7):=by
      have:=HM.out;rw[Hid,List.length_append,zerosP_len,List.length_take,be64_len]
      omega
     rw[HL5.out]at hO5⊢;clear hO hb hO1 hb1 hg5 hat5;go_wp2_with fail
     go_roundw
     case rel=>exact⟨7,m+7,A5,c5,rfl,by go_num,by omega,rfl,hO5,hb5⟩
     case measure=>have:=HMM.out;simp only[lenS];omega
    ·go_wp2_with (at_builtin;refine stop_in ?_)
     unfold Stopped
     have hO1:=hO.alloc (.cells #[.int .u8 ((N:Int)%256)] 5);have hb1:=hb.alloc hb.size (.cells #[.int .u8 ((N:Int)%256)] 5)
     refine wpList_app_bytes rfl (.tmp 40) (.tmp 46) rfl w.heap.size _ _ rfl hO1 _ 1 _ [byteAt N 0] rfl rfl (Src.new _ _ _ _ rfl _ (by simp only[List.map_cons,List.map_nil];rw[byteAt_val N 0 1 rfl];simp)) (by have:=HLL.out;simp only[List.length_singleton];omega) hb1.size fun v' w5 hO5 hg5 hat5=>?_
     have hb5:=below_of_grown hb1 hg5 (fun q hq=>(hO.lt q hq).1);rw[List.append_assoc,show [byteAt N 0]=[(be64 N).getD 7 0] from rfl,HT.out (by omega)]at hO5;obtain⟨A5,c5,rfl,_⟩:=hO5.form
     have HL5:Hid ((zerosP l z++(be64 N).take (7+1)).length=m+8):=by
      have:=HM.out;rw[Hid,List.length_append,zerosP_len,List.length_take,be64_len]
      omega
     rw[HL5.out]at hO5⊢;clear hO hb hO1 hb1 hg5 hat5;go_wp2_with fail
     go_roundw
     case rel=>exact⟨8,m+8,A5,c5,rfl,by go_num,by omega,rfl,hO5,hb5⟩
     case measure=>have:=HMM.out;simp only[lenS];omega
    ·have hp:zerosP l z++(be64 N).take 8=padP l:=by
      rw[zerosP,HST.out,← HNN.out];rfl
     rw[hp]at hO;go_wp2_with fail
     go_ret
     exact⟨_,rfl,by have h:=hO.form;obtain⟨_,_,e,_⟩:=h;exact⟨hO,hb⟩⟩
  ·have hz:Hid (z+1≤padN l.length):=padN_go HZ.out (by have:=HR.out;have:=HM8.out;have:=HM.out;omega);have hO1:=hO.alloc (.cells #[.int .u8 0] 5);have hb1:=hb.alloc hb.size (.cells #[.int .u8 0] 5);go_wp2_with (at_builtin;refine stop_in ?_)
   refine wpList_app_bytes rfl (.tmp 27) (.tmp 28) rfl w.heap.size _ _ rfl hO1 _ 1 _ [0] rfl rfl (Src.new _ _ _ _ rfl _ rfl) (by rw[zerosP_len];have:=HN.out.2;have:=HB.out;have:=hz.out;simp only[List.length_singleton];omega) hb1.size fun v' w5 hO5 hg5 hat5=>?_
   have hb5:=below_of_grown hb1 hg5 (fun q hq=>(hO.lt q hq).1);rw[zerosP_succ]at hO5;obtain⟨A5,c5,rfl,_⟩:=hO5.form;rw[zerosP_len]at hO5⊢;clear hO hb hO1 hb1 hg5 hat5;go_wp2_with fail
   go_roundw
   case rel=>exact⟨z+1,_,A5,c5,rfl,rfl,hz,hO5,hb5⟩
   case measure=>have:=HM.out;have:=HB.out;have:=hz.out;simp only[lenS];omega
theorem ref_pad {A:Option Addr}{c:Nat}{l:List UInt8}{n:Nat}(hn:n=l.length) (hmax:l.length≤1099511627) (w:World) (hS:Src w A (l.map byteV)) :
  Calls Tryz.prog 90 #[.slice A n c,.int .i64 64] w fun e w'=>∃ r,e=.returned r∧Fresh w (padP l) r w':=by
 have HN:=Hh (And.intro hn hmax);obtain⟨N,hN⟩:∃ N,lenP l.length=N:=⟨_,rfl⟩
 have hw2:IntKind.u64.wrap ((n:Int))=(n:Int):=IntWalk.u64_in _ (by omega);have hw3:IntKind.u64.wrap ((n:Int)*8)=(N:Int):=by rw[← hN,lenP,IntKind.wrap_u64,hn];omega
 have HNN:=Hh hN;clear hn hmax hN;go_enter Tryz.func90,Tryz.ntmps90
 go_wp2_with (at_builtin;refine stop_in ?_)
 refine wpList_app_bytes rfl (.const (.slice none 0 0)) (.tmp 8) rfl w.heap.size (.slice none 0 0) [] rfl (OwnB.nil _ _) A n c l rfl HN.out.1 hS (by have:=HN.out.2;simp;omega) (Nat.le_refl _) fun v' w2 hO2 hg2 hat2=>?_
 rw[List.nil_append]at hO2;have hb2:=grown_none (by simpa [Value.ownBlock] using hg2);have hO3:=hO2.alloc (.cells #[.int .u8 128] 5);have hb3:=hb2.alloc hb2.size (.cells #[.int .u8 128] 5);clear hS hg2 hat2;go_wp2_with (at_builtin;refine stop_in ?_)
 refine wpList_app_bytes rfl (.tmp 9) (.tmp 10) rfl w.heap.size _ l rfl hO3 _ 1 _ [128] rfl rfl (Src.new _ _ _ _ rfl _ rfl) (by have:=HN.out.2;simp;omega) hb3.size fun v3 w3 hO4 hg3 hat3=>?_
 have hb4:=below_of_grown hb3 hg3 (fun q hq=>(hO2.lt q hq).1);replace hO4:OwnB w3 w.heap.size v3 (zerosP l 0):=by rw[zerosP];simpa using hO4
 obtain⟨A3,c3,rfl,_⟩:=hO4.form;rw[zerosP_len]at hO4⊢;clear hO2 hO3 hb2 hb3 hg3 hat3;go_wp2_with fail
 go_loopw [5] (fun v7 wr=>∃ (z m:Nat) (VA:Option Addr) (vc:Nat),v7=.slice VA m vc∧Hid (m=l.length+1+z)∧Hid (z≤padN l.length)∧OwnB wr w.heap.size (.slice VA m vc) (zerosP l z)∧Below w.heap.size w wr) (fun v7 _=>l.length+65-lenS v7)
 case atStart=>exact⟨0,_,A3,c3,rfl,rfl,Nat.zero_le _,hO4,hb4⟩
 case round =>
  clear hO4 hb4;obtain⟨z,m,VA,vc,rfl,HM,HZ,hO,hb⟩:=hrel;have HB:=Hh (padN_lt l.length);obtain⟨r,hr⟩:∃ r,m%64=r:=⟨_,rfl⟩
  have hr1:(m:Int).tmod 64=(r:Int):=by rw[← hr];exact(Int.ofNat_tmod m 64).symm
  have hr2:(m:Int)%64=(r:Int):=by rw[← hr];omega
  have HR:=Hh hr;clear hr
  by_cases h0:r=56
  ·subst h0;have HST:Hid (z=padN l.length):=padN_stop HZ.out (by have:=HR.out;have:=HM.out;omega);rw[show((56:Nat):Int)=56 from rfl]at hr1 hr2;go_wp2_with fail
   go_loopw [5] (fun v7 wx=>v7=.slice VA m vc∧OwnB wx w.heap.size (.slice VA m vc) (zerosP l z)∧Below w.heap.size w wx) (fun v7 _=>0)
   case atStart=>exact⟨rfl,hO,hb⟩
   case round =>
    clear hO hb;obtain⟨rfl,hO,hb⟩:=hrel;go_wp2_with fail
    go_loopw [5,7] (fun v7 v9 wx=>∃ (k mm:Nat) (VB:Option Addr) (vb:Nat),v7=.slice VB mm vb∧v9=.int .i64 (7-(k:Int))∧k≤8∧Hid (mm=m+k)∧OwnB wx w.heap.size (.slice VB mm vb) (zerosP l z++(be64 N).take k)∧Below w.heap.size w wx) (fun v7 _ _=>m+8-lenS v7)
    case atStart=>exact⟨0,m,VA,vc,rfl,rfl,by omega,rfl,by simpa using hO,hb⟩
    case round =>
     clear hO hb;obtain⟨k,mm,VB,vb,rfl,rfl,hk,HMM,hO,hb⟩:=hrel
     have HLL:Hid ((zerosP l z++(be64 N).take k).length≤1099511627700):=by
      have:=HM.out;have:=HMM.out;have:=HN.out;have:=HZ.out;have:=HB.out
      rw[Hid,List.length_append,zerosP_len,List.length_take,be64_len]
      omega
     have HT:=Hh (fun h=>take_be64 N k h)
     rcases(show k=0∨k=1∨k=2∨k=3∨k=4∨k=5∨k=6∨k=7∨k=8 by omega) with rfl | rfl | rfl | rfl | rfl | rfl | rfl | rfl | rfl
     ·go_wp2_with (at_builtin;refine stop_in ?_)
      unfold Stopped
      have hO1:=hO.alloc (.cells #[.int .u8 ((N:Int)/72057594037927936%256)] 5);have hb1:=hb.alloc hb.size (.cells #[.int .u8 ((N:Int)/72057594037927936%256)] 5)
      refine wpList_app_bytes rfl (.tmp 42) (.tmp 49) rfl w.heap.size _ _ rfl hO1 _ 1 _ [byteAt N 56] rfl rfl (Src.new _ _ _ _ rfl _ (by simp only[List.map_cons,List.map_nil];rw[byteAt_val N 56 72057594037927936 rfl])) (by have:=HLL.out;simp only[List.length_singleton];omega) hb1.size fun v' w5 hO5 hg5 hat5=>?_
      have hb5:=below_of_grown hb1 hg5 (fun q hq=>(hO.lt q hq).1);rw[List.append_assoc,show [byteAt N 56]=[(be64 N).getD 0 0] from rfl,HT.out (by omega)]at hO5;obtain⟨A5,c5,rfl,_⟩:=hO5.form
      have HL5:Hid ((zerosP l z++(be64 N).take (0+1)).length=m+1):=by
       have:=HM.out;rw[Hid,List.length_append,zerosP_len,List.length_take,be64_len]
       omega
      rw[HL5.out]at hO5⊢;clear hO hb hO1 hb1 hg5 hat5;go_wp2_with fail
      go_roundw
      case rel=>exact⟨1,m+1,A5,c5,rfl,by go_num,by omega,rfl,hO5,hb5⟩
      case measure=>have:=HMM.out;simp only[lenS];omega
     ·go_wp2_with (at_builtin;refine stop_in ?_)
      unfold Stopped
      have hO1:=hO.alloc (.cells #[.int .u8 ((N:Int)/281474976710656%256)] 5);have hb1:=hb.alloc hb.size (.cells #[.int .u8 ((N:Int)/281474976710656%256)] 5)
      refine wpList_app_bytes rfl (.tmp 42) (.tmp 49) rfl w.heap.size _ _ rfl hO1 _ 1 _ [byteAt N 48] rfl rfl (Src.new _ _ _ _ rfl _ (by simp only[List.map_cons,List.map_nil];rw[byteAt_val N 48 281474976710656 rfl])) (by have:=HLL.out;simp only[List.length_singleton];omega) hb1.size fun v' w5 hO5 hg5 hat5=>?_
      have hb5:=below_of_grown hb1 hg5 (fun q hq=>(hO.lt q hq).1);rw[List.append_assoc,show [byteAt N 48]=[(be64 N).getD 1 0] from rfl,HT.out (by omega)]at hO5;obtain⟨A5,c5,rfl,_⟩:=hO5.form
      have HL5:Hid ((zerosP l z++(be64 N).take (1+1)).length=m+2):=by
       have:=HM.out;rw[Hid,List.length_append,zerosP_len,List.length_take,be64_len]
       omega
      rw[HL5.out]at hO5⊢;clear hO hb hO1 hb1 hg5 hat5;go_wp2_with fail
      go_roundw
      case rel=>exact⟨2,m+2,A5,c5,rfl,by go_num,by omega,rfl,hO5,hb5⟩
      case measure=>have:=HMM.out;simp only[lenS];omega
     ·go_wp2_with (at_builtin;refine stop_in ?_)
      unfold Stopped
      have hO1:=hO.alloc (.cells #[.int .u8 ((N:Int)/1099511627776%256)] 5);have hb1:=hb.alloc hb.size (.cells #[.int .u8 ((N:Int)/1099511627776%256)] 5)
      refine wpList_app_bytes rfl (.tmp 42) (.tmp 49) rfl w.heap.size _ _ rfl hO1 _ 1 _ [byteAt N 40] rfl rfl (Src.new _ _ _ _ rfl _ (by simp only[List.map_cons,List.map_nil];rw[byteAt_val N 40 1099511627776 rfl])) (by have:=HLL.out;simp only[List.length_singleton];omega) hb1.size fun v' w5 hO5 hg5 hat5=>?_
      have hb5:=below_of_grown hb1 hg5 (fun q hq=>(hO.lt q hq).1);rw[List.append_assoc,show [byteAt N 40]=[(be64 N).getD 2 0] from rfl,HT.out (by omega)]at hO5;obtain⟨A5,c5,rfl,_⟩:=hO5.form
      have HL5:Hid ((zerosP l z++(be64 N).take (2+1)).length=m+3):=by
       have:=HM.out;rw[Hid,List.length_append,zerosP_len,List.length_take,be64_len]
       omega
      rw[HL5.out]at hO5⊢;clear hO hb hO1 hb1 hg5 hat5;go_wp2_with fail
      go_roundw
      case rel=>exact⟨3,m+3,A5,c5,rfl,by go_num,by omega,rfl,hO5,hb5⟩
      case measure=>have:=HMM.out;simp only[lenS];omega
     ·go_wp2_with (at_builtin;refine stop_in ?_)
      unfold Stopped
      have hO1:=hO.alloc (.cells #[.int .u8 ((N:Int)/4294967296%256)] 5);have hb1:=hb.alloc hb.size (.cells #[.int .u8 ((N:Int)/4294967296%256)] 5)
      refine wpList_app_bytes rfl (.tmp 42) (.tmp 49) rfl w.heap.size _ _ rfl hO1 _ 1 _ [byteAt N 32] rfl rfl (Src.new _ _ _ _ rfl _ (by simp only[List.map_cons,List.map_nil];rw[byteAt_val N 32 4294967296 rfl])) (by have:=HLL.out;simp only[List.length_singleton];omega) hb1.size fun v' w5 hO5 hg5 hat5=>?_
      have hb5:=below_of_grown hb1 hg5 (fun q hq=>(hO.lt q hq).1);rw[List.append_assoc,show [byteAt N 32]=[(be64 N).getD 3 0] from rfl,HT.out (by omega)]at hO5;obtain⟨A5,c5,rfl,_⟩:=hO5.form
      have HL5:Hid ((zerosP l z++(be64 N).take (3+1)).length=m+4):=by
       have:=HM.out;rw[Hid,List.length_append,zerosP_len,List.length_take,be64_len]
       omega
      rw[HL5.out]at hO5⊢;clear hO hb hO1 hb1 hg5 hat5;go_wp2_with fail
      go_roundw
      case rel=>exact⟨4,m+4,A5,c5,rfl,by go_num,by omega,rfl,hO5,hb5⟩
      case measure=>have:=HMM.out;simp only[lenS];omega
     ·go_wp2_with (at_builtin;refine stop_in ?_)
      unfold Stopped
      have hO1:=hO.alloc (.cells #[.int .u8 ((N:Int)/16777216%256)] 5);have hb1:=hb.alloc hb.size (.cells #[.int .u8 ((N:Int)/16777216%256)] 5)
      refine wpList_app_bytes rfl (.tmp 42) (.tmp 49) rfl w.heap.size _ _ rfl hO1 _ 1 _ [byteAt N 24] rfl rfl (Src.new _ _ _ _ rfl _ (by simp only[List.map_cons,List.map_nil];rw[byteAt_val N 24 16777216 rfl])) (by have:=HLL.out;simp only[List.length_singleton];omega) hb1.size fun v' w5 hO5 hg5 hat5=>?_
      have hb5:=below_of_grown hb1 hg5 (fun q hq=>(hO.lt q hq).1);rw[List.append_assoc,show [byteAt N 24]=[(be64 N).getD 4 0] from rfl,HT.out (by omega)]at hO5;obtain⟨A5,c5,rfl,_⟩:=hO5.form
      have HL5:Hid ((zerosP l z++(be64 N).take (4+1)).length=m+5):=by
       have:=HM.out;rw[Hid,List.length_append,zerosP_len,List.length_take,be64_len]
       omega
      rw[HL5.out]at hO5⊢;clear hO hb hO1 hb1 hg5 hat5;go_wp2_with fail
      go_roundw
      case rel=>exact⟨5,m+5,A5,c5,rfl,by go_num,by omega,rfl,hO5,hb5⟩
      case measure=>have:=HMM.out;simp only[lenS];omega
     ·go_wp2_with (at_builtin;refine stop_in ?_)
      unfold Stopped
      have hO1:=hO.alloc (.cells #[.int .u8 ((N:Int)/65536%256)] 5);have hb1:=hb.alloc hb.size (.cells #[.int .u8 ((N:Int)/65536%256)] 5)
      refine wpList_app_bytes rfl (.tmp 42) (.tmp 49) rfl w.heap.size _ _ rfl hO1 _ 1 _ [byteAt N 16] rfl rfl (Src.new _ _ _ _ rfl _ (by simp only[List.map_cons,List.map_nil];rw[byteAt_val N 16 65536 rfl])) (by have:=HLL.out;simp only[List.length_singleton];omega) hb1.size fun v' w5 hO5 hg5 hat5=>?_
      have hb5:=below_of_grown hb1 hg5 (fun q hq=>(hO.lt q hq).1);rw[List.append_assoc,show [byteAt N 16]=[(be64 N).getD 5 0] from rfl,HT.out (by omega)]at hO5;obtain⟨A5,c5,rfl,_⟩:=hO5.form
      have HL5:Hid ((zerosP l z++(be64 N).take (5+1)).length=m+6):=by
       have:=HM.out;rw[Hid,List.length_append,zerosP_len,List.length_take,be64_len]
       omega
      rw[HL5.out]at hO5⊢;clear hO hb hO1 hb1 hg5 hat5;go_wp2_with fail
      go_roundw
      case rel=>exact⟨6,m+6,A5,c5,rfl,by go_num,by omega,rfl,hO5,hb5⟩
      case measure=>have:=HMM.out;simp only[lenS];omega
     ·go_wp2_with (at_builtin;refine stop_in ?_)
      unfold Stopped
      have hO1:=hO.alloc (.cells #[.int .u8 ((N:Int)/256%256)] 5);have hb1:=hb.alloc hb.size (.cells #[.int .u8 ((N:Int)/256%256)] 5)
      refine wpList_app_bytes rfl (.tmp 42) (.tmp 49) rfl w.heap.size _ _ rfl hO1 _ 1 _ [byteAt N 8] rfl rfl (Src.new _ _ _ _ rfl _ (by simp only[List.map_cons,List.map_nil];rw[byteAt_val N 8 256 rfl])) (by have:=HLL.out;simp only[List.length_singleton];omega) hb1.size fun v' w5 hO5 hg5 hat5=>?_
      have hb5:=below_of_grown hb1 hg5 (fun q hq=>(hO.lt q hq).1);rw[List.append_assoc,show [byteAt N 8]=[(be64 N).getD 6 0] from rfl,HT.out (by omega)]at hO5;obtain⟨A5,c5,rfl,_⟩:=hO5.form
      have HL5:Hid ((zerosP l z++(be64 N).take (6+1)).length=m+7):=by
       have:=HM.out;rw[Hid,List.length_append,zerosP_len,List.length_take,be64_len]
       omega
      rw[HL5.out]at hO5⊢;clear hO hb hO1 hb1 hg5 hat5;go_wp2_with fail
      go_roundw
      case rel=>exact⟨7,m+7,A5,c5,rfl,by go_num,by omega,rfl,hO5,hb5⟩
      case measure=>have:=HMM.out;simp only[lenS];omega
     ·go_wp2_with (at_builtin;refine stop_in ?_)
      unfold Stopped
      have hO1:=hO.alloc (.cells #[.int .u8 ((N:Int)%256)] 5);have hb1:=hb.alloc hb.size (.cells #[.int .u8 ((N:Int)%256)] 5)
      refine wpList_app_bytes rfl (.tmp 42) (.tmp 49) rfl w.heap.size _ _ rfl hO1 _ 1 _ [byteAt N 0] rfl rfl (Src.new _ _ _ _ rfl _ (by simp only[List.map_cons,List.map_nil];rw[byteAt_val N 0 1 rfl];simp)) (by have:=HLL.out;simp only[List.length_singleton];omega) hb1.size fun v' w5 hO5 hg5 hat5=>?_
      have hb5:=below_of_grown hb1 hg5 (fun q hq=>(hO.lt q hq).1);rw[List.append_assoc,show [byteAt N 0]=[(be64 N).getD 7 0] from rfl,HT.out (by omega)]at hO5;obtain⟨A5,c5,rfl,_⟩:=hO5.form
      have HL5:Hid ((zerosP l z++(be64 N).take (7+1)).length=m+8):=by
       have:=HM.out;rw[Hid,List.length_append,zerosP_len,List.length_take,be64_len]
       omega
      rw[HL5.out]at hO5⊢;clear hO hb hO1 hb1 hg5 hat5;go_wp2_with fail
      go_roundw
      case rel=>exact⟨8,m+8,A5,c5,rfl,by go_num,by omega,rfl,hO5,hb5⟩
      case measure=>have:=HMM.out;simp only[lenS];omega
     ·have hp:zerosP l z++(be64 N).take 8=padP l:=by
       rw[zerosP,HST.out,← HNN.out];rfl
      rw[hp]at hO;go_wp2_with fail
      go_ret
      exact⟨_,rfl,by have h:=hO.form;obtain⟨_,_,e,_⟩:=h;exact⟨hO,hb⟩⟩
  ·have hz:Hid (z+1≤padN l.length):=padN_go HZ.out (by have:=HR.out;have:=HM.out;omega);have hO1:=hO.alloc (.cells #[.int .u8 0] 5);have hb1:=hb.alloc hb.size (.cells #[.int .u8 0] 5);have h56:¬ ((r:Int)=56):=by omega
   go_wp2_with (at_builtin;refine stop_in ?_)
   refine wpList_app_bytes rfl (.tmp 21) (.tmp 22) rfl w.heap.size _ _ rfl hO1 _ 1 _ [0] rfl rfl (Src.new _ _ _ _ rfl _ rfl) (by rw[zerosP_len];have:=HN.out.2;have:=HB.out;have:=hz.out;simp only[List.length_singleton];omega) hb1.size fun v' w5 hO5 hg5 hat5=>?_
   have hb5:=below_of_grown hb1 hg5 (fun q hq=>(hO.lt q hq).1);rw[zerosP_succ]at hO5;obtain⟨A5,c5,rfl,_⟩:=hO5.form;rw[zerosP_len]at hO5⊢;clear hO hb hO1 hb1 hg5 hat5;go_wp2_with fail
   go_roundw
   case rel=>exact⟨z+1,_,A5,c5,rfl,rfl,hz,hO5,hb5⟩
   case measure=>have:=HM.out;have:=HB.out;have:=hz.out;simp only[lenS];omega
end Go.Proofs.YtgcjjhibdbafmaaGreatDoor
namespace Go.Proofs.YtgcjjhibdbafmaaGreatDoor
def num:List Nat→Nat
 | []=>0
 | x::l=>x+18446744073709551616*num l
def W64 (l:List Nat):Prop:=∀ x∈l,x<18446744073709551616
def mulRow (x:Nat):List Nat→List Nat→Nat→List Nat
 | y::ys,z::zs,c=>(z+x*y+c)%18446744073709551616::mulRow x ys zs ((z+x*y+c)/18446744073709551616)
 | _,_,_=>[]
theorem mulRow_len (x:Nat):∀ (ys zs:List Nat) (c:Nat),zs.length≤ys.length→(mulRow x ys zs c).length=zs.length
 | _,[],_,_=>by simp[mulRow]
 | [],z::zs,_,h=>by simp at h
 | y::ys,z::zs,c,h=>by simp[mulRow,mulRow_len x ys zs _ (by simpa using h)]
theorem mulRow_w (x:Nat):∀ (ys zs:List Nat) (c:Nat),W64 (mulRow x ys zs c)
 | _,[],_=>by simp[mulRow,W64]
 | [],z::zs,_=>by simp[mulRow,W64]
 | y::ys,z::zs,c=>by
  intro a ha
  simp only[mulRow,List.mem_cons]at ha
  rcases ha with rfl | ha
  ·exact Nat.mod_lt _ (by decide)
  ·exact mulRow_w x ys zs _ a ha
theorem mulRow_num (x:Nat):∀ (ys zs:List Nat) (c:Nat),zs.length≤ys.length→
  num (mulRow x ys zs c)%18446744073709551616 ^ zs.length=(num zs+x*num ys+c)%18446744073709551616 ^ zs.length
 | _,[],_,_=>by simp[Nat.mod_one]
 | [],z::zs,_,h=>by simp at h
 | y::ys,z::zs,c,h=>by
  have ih:=mulRow_num x ys zs ((z+x*y+c)/18446744073709551616) (by simpa using h)
  simp only[mulRow,num,List.length_cons,Nat.pow_succ]
  generalize hD:(18446744073709551616:Nat)=D at *
  generalize hP:D ^ zs.length=P at *
  have hDp:0<D:=by omega
  have e:z+D*num zs+x*(y+D*num ys)+c=(z+x*y+c)%D+D*(num zs+x*num ys+(z+x*y+c)/D):=by
   have:=Nat.mod_add_div (z+x*y+c) D;have e2:x*(y+D*num ys)=x*y+D*(x*num ys):=by rw[Nat.mul_add,Nat.mul_left_comm]
   rw[e2,Nat.mul_add,Nat.mul_add]
   omega
  rw[e,Nat.mul_comm P D,Nat.mod_mul,Nat.mod_mul];have hlt:(z+x*y+c)%D<D:=Nat.mod_lt _ hDp
  generalize (z+x*y+c)%D=r at *
  rw[Nat.add_mul_mod_self_left,Nat.add_mul_mod_self_left,Nat.mod_eq_of_lt hlt,Nat.add_mul_div_left _ _ hDp,Nat.add_mul_div_left _ _ hDp,Nat.div_eq_of_lt hlt,Nat.zero_add,Nat.zero_add,ih]
theorem num_lt:∀ {l:List Nat},W64 l→num l<18446744073709551616 ^ l.length
 | [],_=>by simp[num]
 | x::l,h=>by
  have h1:x<18446744073709551616:=h x (by simp);have h2:=num_lt (l:=l) (fun a ha=>h a (by simp[ha]))
  simp only[num,List.length_cons,Nat.pow_succ]
  generalize 18446744073709551616 ^ l.length=P at *
  omega
def mulRows:List Nat→List Nat→List Nat→List Nat
 | x::xs,ys,z::zs=>match mulRow x ys (z::zs) 0 with
  | a::r=>a::mulRows xs ys r
  | []=>[]
 | _,_,zs=>zs
theorem mulRows_spec:∀ (xs ys zs:List Nat),xs.length=zs.length→zs.length≤ys.length→W64 zs→
  (mulRows xs ys zs).length=zs.length∧W64 (mulRows xs ys zs)∧num (mulRows xs ys zs)%18446744073709551616 ^ zs.length=(num zs+num xs*num ys)%18446744073709551616 ^ zs.length
 | [],_,[],_,_,_=>by simp[mulRows,W64,Nat.mod_one]
 | [],_,_::_,h,_,_=>by simp at h
 | _::_,_,[],h,_,_=>by simp at h
 | x::xs,ys,z::zs,hx,hy,hw=>by
  obtain⟨a,r,hr⟩:∃ a r,mulRow x ys (z::zs) 0=a::r:=by
   cases ys with
   | nil=>simp at hy
   | cons y ys=>exact⟨_,_,rfl⟩
  have hl:=mulRow_len x ys (z::zs) 0 hy;have hn:=mulRow_num x ys (z::zs) 0 hy;have hwr:=mulRow_w x ys (z::zs) 0;rw[hr]at hl hn hwr;have hrl:r.length=zs.length:=by simpa using hl
  have ih:=mulRows_spec xs ys r (by rw[hrl];simpa using hx) (by rw[hrl];simp at hy;omega) (fun b hb=>hwr b (by simp[hb]));rw[hrl]at ih;have ha:a<18446744073709551616:=hwr a (by simp)
  refine⟨by simp[mulRows,hr,ih.1], ?_, ?_⟩
  ·intro b hb
   simp only[mulRows,hr,List.mem_cons]at hb
   rcases hb with rfl | hb
   ·exact ha
   ·exact ih.2.1 b hb
  ·have e:=ih.2.2
   simp only[mulRows,hr,num,List.length_cons,Nat.pow_succ,Nat.add_zero]at hn⊢
   generalize hD:(18446744073709551616:Nat)=D at *
   generalize hP:D ^ zs.length=P at *
   have hDp:0<D:=by omega
   rw[Nat.mul_comm P D]at hn⊢
   have e1:(a+D*num (mulRows xs ys r))%(D*P)=(a+D*(num r+num xs*num ys))%(D*P):=by
    rw[Nat.mod_mul,Nat.mod_mul,Nat.add_mul_mod_self_left,Nat.add_mul_mod_self_left,Nat.add_mul_div_left _ _ hDp,Nat.add_mul_div_left _ _ hDp,Nat.div_eq_of_lt ha,Nat.zero_add,Nat.zero_add,e]
   rw[e1,Nat.mul_add,← Nat.add_assoc,Nat.add_mod,hn,← Nat.add_mod,Nat.add_mul,Nat.mul_assoc D,Nat.add_assoc,Nat.add_assoc]
theorem mulRows4 {x y:List Nat}(hx:x.length=4) (hy:y.length=4) :
  (mulRows x y [0,0,0,0]).length=4∧W64 (mulRows x y [0,0,0,0])∧(num x*num y<18446744073709551616 ^ 4→num (mulRows x y [0,0,0,0])=num x*num y):=by
 have h:=mulRows_spec x y [0,0,0,0] (by simp[hx]) (by simp[hy]) (by simp[W64])
 refine⟨by simpa using h.1,h.2.1,fun hb=>?_⟩
 have h2:=num_lt h.2.1;have e:=h.2.2;have hz:num [0,0,0,0]=0:=by decide
 rw[h.1]at h2
 simp only[List.length_cons,List.length_nil,hz,Nat.zero_add,Nat.reduceAdd]at h2 e
 rwa [Nat.mod_eq_of_lt h2,Nat.mod_eq_of_lt hb]at e
theorem root_unique {n a b g:Nat}(hn:n≠0) (h1:a ^ n≤g) (h2:g<(a+1) ^ n) (h3:b ^ n≤g) (h4:g<(b+1) ^ n):a=b:=by
 rcases Nat.lt_trichotomy a b with h | h | h
 ·have:=Nat.pow_le_pow_left (show a+1≤b by omega) n
  omega
 ·exact h
 ·have:=Nat.pow_le_pow_left (show b+1≤a by omega) n
  omega
theorem mul_step {x y z c:Nat}(hx:x<18446744073709551616) (hy:y<18446744073709551616) (hz:z<18446744073709551616) (hc:c<18446744073709551616) :
  x*y/18446744073709551616+(x*y%18446744073709551616+c)/18446744073709551616<18446744073709551616∧
  x*y/18446744073709551616+(x*y%18446744073709551616+c)/18446744073709551616+(z+(x*y%18446744073709551616+c)%18446744073709551616)/18446744073709551616=(z+x*y+c)/18446744073709551616∧
  (z+(x*y%18446744073709551616+c)%18446744073709551616)%18446744073709551616=(z+x*y+c)%18446744073709551616∧(z+x*y+c)/18446744073709551616<18446744073709551616:=by
 have:=Nat.mul_le_mul (show x≤18446744073709551615 by omega) (show y≤18446744073709551615 by omega)
 generalize x*y=p at *
 omega
end Go.Proofs.YtgcjjhibdbafmaaGreatDoor
namespace Go.Proofs.YtgcjjhibdbafmaaGreatDoor
def primesN:List Nat:=[2,3,5,7,11,13,17,19,23,29,31,37,41,43,47,53,59,61,67,71,73,79,83,89,97,101,103,107,109,113,127,131,137,139,149,151,157,163,167,173,179,181,191,193,197,199,211,223,227,229,233,239,241,251,257,263,269,271,277,281,283,293,307,311,313,317,331,337,347,349,353,359,367,373,379,383,389,397,401,409]
def constK:List Nat:=[4794697086780616226,8158064640168781261,13096744586834688815,16840607885511220156,4131703408338449720,6480981068601479193,10538285296894168987,12329834152419229976,15566598209576043074,1334009975649890238,2608012711638119052,6128411473006802146,8268148722764581231,9286055187155687089,11230858885718282805,13951009754708518548,16472876342353939154,17275323862435702243,1135362057144423861,2597628984639134821,3308224258029322869,5365058923640841347,6679025012923562964,8573033837759648693,10970295158949994411,12119686244451234320,12683024718118986047,13788192230050041572,14330467153632333762,15395433587784984357,489312712824947311,1452737877330783856,2861767655752347644,3322285676063803686,5560940570517711597,5996557281743188959,7280758554555802590,8532644243296465576,9350256976987008742,10552545826968843579,11727347734174303076,12113106623233404929,14000437183269869457,14369950271660146224,15101387698204529176,15463397548674623760,17586052441742319658,1182934255886127544,1847814050463011016,2177327727835720531,2830643537854262169,3796741975233480872,4115178125766777443,5681478168544905931,6601373596472566643,7507060721942968483,8399075790359081724,8693463985226723168,9568029438360202098,10144078919501101548,10430055236837252648,11840083180663258601,13761210420658862357,14299343276471374635,14566680578165727644,15097957966210449927,16922976911328602910,17689382322260857208,500013540394364858,748580250866718886,1242879168328830382,1977374033974150939,2944078676154940804,3659926193048069267,4368137639120453308,4836135668995329356,5532061633213252278,6448918945643986474,6902733635092675308,7801388544844847127]
def constH:List Nat:=[7640891576956012808,13503953896175478587,4354685564936845355,11912009170470909681,5840696475078001361,11170449401992604703,2270897969802886507,6620516959819538809]
def isFrac (n p c:Nat):Bool:=(List.range 21).any fun w=>decide ((w*18446744073709551616+c) ^ n≤p*18446744073709551616 ^ n)&&decide (p*18446744073709551616 ^ n<(w*18446744073709551616+c+1) ^ n)
end Go.Proofs.YtgcjjhibdbafmaaGreatDoor
namespace Go.Proofs.YtgcjjhibdbafmaaGreatDoor
def getN (l:List Nat) (i:Nat):Nat:=l.getD i 0
theorem getN_lt {l:List Nat}(h:W64 l) (i:Nat):getN l i<18446744073709551616:=by
 unfold getN
 rcases Nat.lt_or_ge i l.length with h1 | h1
 ·rw[List.getD_eq_getElem?_getD,List.getElem?_eq_getElem h1]
  exact h _ (List.getElem_mem h1)
 ·rw[List.getD_eq_getElem?_getD,List.getElem?_eq_none h1];decide
theorem drop_getN {l:List Nat}{i:Nat}(h:i<l.length):l.drop i=getN l i::l.drop (i+1):=by
 rw[List.drop_eq_getElem_cons h]
 simp[getN,h]
theorem W64.set {l:List Nat}(h:W64 l) (i:Nat) {n:Nat}(hn:n<18446744073709551616):W64 (l.set i n):=fun a ha=>by
 rcases List.mem_or_eq_of_mem_set ha with h1 | h1
 ·exact h a h1
 ·rw[h1];exact hn
theorem set_take {l:List Nat}{k u:Nat}(h:k<l.length):(l.set k u).take (k+1)=l.take k++[u]∧(l.set k u).drop (k+1)=l.drop (k+1):=by
 have e:l.set k u=l.take k++u::l.drop (k+1):=by rw[List.set_eq_take_append_cons_drop,if_pos h]
 have hl:(l.take k).length=k:=by rw[List.length_take];omega
 constructor
 ·rw[e,List.take_append,hl,List.take_of_length_le (by omega),Nat.add_sub_cancel_left];rfl
 ·rw[e,List.drop_append,hl,List.drop_of_length_le (by omega),Nat.add_sub_cancel_left];rfl
theorem times_inner {zs ys:List Nat}{x c k j:Nat}(hk:k<zs.length) (hj:j<ys.length) :
  (zs.set k ((getN zs k+x*getN ys j+c)%18446744073709551616)).take (k+1)++mulRow x (ys.drop (j+1)) ((zs.set k ((getN zs k+x*getN ys j+c)%18446744073709551616)).drop (k+1)) ((getN zs k+x*getN ys j+c)/18446744073709551616) =
  zs.take k++mulRow x (ys.drop j) (zs.drop k) c:=by
 rw[(set_take hk).1,(set_take hk).2,drop_getN hk,drop_getN hj,mulRow,List.append_assoc];rfl
theorem times_outer {x y zs zs':List Nat}{i:Nat}(hi:i<x.length) (hz:i<zs.length) (hy:0<y.length) (h:zs'=zs.take i++mulRow (getN x i) y (zs.drop i) 0) :
  zs'.take (i+1)++mulRows (x.drop (i+1)) y (zs'.drop (i+1))=zs.take i++mulRows (x.drop i) y (zs.drop i):=by
 have hl:(zs.take i).length=i:=by rw[List.length_take];omega
 obtain⟨a,r,hr⟩:∃ a r,mulRow (getN x i) y (zs.drop i) 0=a::r:=by
  rw[drop_getN hz]
  cases y with
  | nil=>simp at hy
  | cons b y=>exact⟨_,_,rfl⟩
 have e1:zs'.take (i+1)=zs.take i++[a]:=by
  rw[h,hr,List.take_append,hl,List.take_of_length_le (by omega),Nat.add_sub_cancel_left];rfl
 have e2:zs'.drop (i+1)=r:=by
  rw[h,hr,List.drop_append,hl,List.drop_of_length_le (by omega),Nat.add_sub_cancel_left];rfl
 rw[e1,e2,drop_getN hi];rw[drop_getN hz]at hr⊢;rw[mulRows,hr,List.append_assoc];rfl
theorem mulRow_nil (x:Nat) (ys:List Nat) (c:Nat):mulRow x ys [] c=[]:=by cases ys <;> rfl
theorem mulRows_nil (ys zs:List Nat):mulRows [] ys zs=zs:=by cases zs <;> rfl
end Go.Proofs.YtgcjjhibdbafmaaGreatDoor
namespace Go.Proofs.YtgcjjhibdbafmaaGreatDoor
open Go.RowKit
def rotP (a b x:Int):Int:=bits .or .u32 (x*a%4294967296) (x/b)
theorem bits_Rot17 (x:Int) (w:World) :
  Calls Tryz.prog 147 #[.int .u32 x,.int .i64 (-17)] w fun e w'=>e=.returned (.int .u32 (rotP 32768 131072 x))∧w=w':=by
 have e1:bits .and .u64 (IntKind.u64.wrap (-17)) 31=15:=by kernel_rfl
 have e2:IntKind.u64.wrap (32-15)=17:=by kernel_rfl
 go_enter Tryz.func147,Tryz.ntmps147
 go_wp2_with fail
 go_ret
 exact⟨rfl,rfl⟩
theorem sha_rot17 (x:Int) (w:World) :
  Calls Tryz.prog 108 #[.int .u32 x,.int .i64 17] w fun e w'=>e=.returned (.int .u32 (rotP 32768 131072 x))∧w=w':=by
 have R:=Hh (bits_Rot17 x w);go_enter Tryz.func108,Tryz.ntmps108
 go_wp2_with fail
 refine R.out.mono ?_
 rintro e w1 ⟨rfl,rfl⟩
 go_wp2_with fail
 go_ret
 exact⟨rfl,rfl⟩
theorem ref_rot17 (x:Int) (w:World) :
  Calls Tryz.prog 113 #[.int .u32 x,.int .i64 17] w fun e w'=>e=.returned (.int .u32 (rotP 32768 131072 x))∧w=w':=by
 have R:=Hh (bits_Rot17 x w);go_enter Tryz.func113,Tryz.ntmps113
 go_wp2_with fail
 refine R.out.mono ?_
 rintro e w1 ⟨rfl,rfl⟩
 go_wp2_with fail
 go_ret
 exact⟨rfl,rfl⟩
theorem bits_Rot19 (x:Int) (w:World) :
  Calls Tryz.prog 147 #[.int .u32 x,.int .i64 (-19)] w fun e w'=>e=.returned (.int .u32 (rotP 8192 524288 x))∧w=w':=by
 have e1:bits .and .u64 (IntKind.u64.wrap (-19)) 31=13:=by kernel_rfl
 have e2:IntKind.u64.wrap (32-13)=19:=by kernel_rfl
 go_enter Tryz.func147,Tryz.ntmps147
 go_wp2_with fail
 go_ret
 exact⟨rfl,rfl⟩
theorem sha_rot19 (x:Int) (w:World) :
  Calls Tryz.prog 108 #[.int .u32 x,.int .i64 19] w fun e w'=>e=.returned (.int .u32 (rotP 8192 524288 x))∧w=w':=by
 have R:=Hh (bits_Rot19 x w);go_enter Tryz.func108,Tryz.ntmps108
 go_wp2_with fail
 refine R.out.mono ?_
 rintro e w1 ⟨rfl,rfl⟩
 go_wp2_with fail
 go_ret
 exact⟨rfl,rfl⟩
theorem ref_rot19 (x:Int) (w:World) :
  Calls Tryz.prog 113 #[.int .u32 x,.int .i64 19] w fun e w'=>e=.returned (.int .u32 (rotP 8192 524288 x))∧w=w':=by
 have R:=Hh (bits_Rot19 x w);go_enter Tryz.func113,Tryz.ntmps113
 go_wp2_with fail
 refine R.out.mono ?_
 rintro e w1 ⟨rfl,rfl⟩
 go_wp2_with fail
 go_ret
 exact⟨rfl,rfl⟩
theorem bits_Rot7 (x:Int) (w:World) :
  Calls Tryz.prog 147 #[.int .u32 x,.int .i64 (-7)] w fun e w'=>e=.returned (.int .u32 (rotP 33554432 128 x))∧w=w':=by
 have e1:bits .and .u64 (IntKind.u64.wrap (-7)) 31=25:=by kernel_rfl
 have e2:IntKind.u64.wrap (32-25)=7:=by kernel_rfl
 go_enter Tryz.func147,Tryz.ntmps147
 go_wp2_with fail
 go_ret
 exact⟨rfl,rfl⟩
theorem sha_rot7 (x:Int) (w:World) :
  Calls Tryz.prog 108 #[.int .u32 x,.int .i64 7] w fun e w'=>e=.returned (.int .u32 (rotP 33554432 128 x))∧w=w':=by
 have R:=Hh (bits_Rot7 x w);go_enter Tryz.func108,Tryz.ntmps108
 go_wp2_with fail
 refine R.out.mono ?_
 rintro e w1 ⟨rfl,rfl⟩
 go_wp2_with fail
 go_ret
 exact⟨rfl,rfl⟩
theorem ref_rot7 (x:Int) (w:World) :
  Calls Tryz.prog 113 #[.int .u32 x,.int .i64 7] w fun e w'=>e=.returned (.int .u32 (rotP 33554432 128 x))∧w=w':=by
 have R:=Hh (bits_Rot7 x w);go_enter Tryz.func113,Tryz.ntmps113
 go_wp2_with fail
 refine R.out.mono ?_
 rintro e w1 ⟨rfl,rfl⟩
 go_wp2_with fail
 go_ret
 exact⟨rfl,rfl⟩
theorem bits_Rot18 (x:Int) (w:World) :
  Calls Tryz.prog 147 #[.int .u32 x,.int .i64 (-18)] w fun e w'=>e=.returned (.int .u32 (rotP 16384 262144 x))∧w=w':=by
 have e1:bits .and .u64 (IntKind.u64.wrap (-18)) 31=14:=by kernel_rfl
 have e2:IntKind.u64.wrap (32-14)=18:=by kernel_rfl
 go_enter Tryz.func147,Tryz.ntmps147
 go_wp2_with fail
 go_ret
 exact⟨rfl,rfl⟩
theorem sha_rot18 (x:Int) (w:World) :
  Calls Tryz.prog 108 #[.int .u32 x,.int .i64 18] w fun e w'=>e=.returned (.int .u32 (rotP 16384 262144 x))∧w=w':=by
 have R:=Hh (bits_Rot18 x w);go_enter Tryz.func108,Tryz.ntmps108
 go_wp2_with fail
 refine R.out.mono ?_
 rintro e w1 ⟨rfl,rfl⟩
 go_wp2_with fail
 go_ret
 exact⟨rfl,rfl⟩
theorem ref_rot18 (x:Int) (w:World) :
  Calls Tryz.prog 113 #[.int .u32 x,.int .i64 18] w fun e w'=>e=.returned (.int .u32 (rotP 16384 262144 x))∧w=w':=by
 have R:=Hh (bits_Rot18 x w);go_enter Tryz.func113,Tryz.ntmps113
 go_wp2_with fail
 refine R.out.mono ?_
 rintro e w1 ⟨rfl,rfl⟩
 go_wp2_with fail
 go_ret
 exact⟨rfl,rfl⟩
theorem bits_Rot6 (x:Int) (w:World) :
  Calls Tryz.prog 147 #[.int .u32 x,.int .i64 (-6)] w fun e w'=>e=.returned (.int .u32 (rotP 67108864 64 x))∧w=w':=by
 have e1:bits .and .u64 (IntKind.u64.wrap (-6)) 31=26:=by kernel_rfl
 have e2:IntKind.u64.wrap (32-26)=6:=by kernel_rfl
 go_enter Tryz.func147,Tryz.ntmps147
 go_wp2_with fail
 go_ret
 exact⟨rfl,rfl⟩
theorem sha_rot6 (x:Int) (w:World) :
  Calls Tryz.prog 108 #[.int .u32 x,.int .i64 6] w fun e w'=>e=.returned (.int .u32 (rotP 67108864 64 x))∧w=w':=by
 have R:=Hh (bits_Rot6 x w);go_enter Tryz.func108,Tryz.ntmps108
 go_wp2_with fail
 refine R.out.mono ?_
 rintro e w1 ⟨rfl,rfl⟩
 go_wp2_with fail
 go_ret
 exact⟨rfl,rfl⟩
theorem ref_rot6 (x:Int) (w:World) :
  Calls Tryz.prog 113 #[.int .u32 x,.int .i64 6] w fun e w'=>e=.returned (.int .u32 (rotP 67108864 64 x))∧w=w':=by
 have R:=Hh (bits_Rot6 x w);go_enter Tryz.func113,Tryz.ntmps113
 go_wp2_with fail
 refine R.out.mono ?_
 rintro e w1 ⟨rfl,rfl⟩
 go_wp2_with fail
 go_ret
 exact⟨rfl,rfl⟩
theorem bits_Rot11 (x:Int) (w:World) :
  Calls Tryz.prog 147 #[.int .u32 x,.int .i64 (-11)] w fun e w'=>e=.returned (.int .u32 (rotP 2097152 2048 x))∧w=w':=by
 have e1:bits .and .u64 (IntKind.u64.wrap (-11)) 31=21:=by kernel_rfl
 have e2:IntKind.u64.wrap (32-21)=11:=by kernel_rfl
 go_enter Tryz.func147,Tryz.ntmps147
 go_wp2_with fail
 go_ret
 exact⟨rfl,rfl⟩
theorem sha_rot11 (x:Int) (w:World) :
  Calls Tryz.prog 108 #[.int .u32 x,.int .i64 11] w fun e w'=>e=.returned (.int .u32 (rotP 2097152 2048 x))∧w=w':=by
 have R:=Hh (bits_Rot11 x w);go_enter Tryz.func108,Tryz.ntmps108
 go_wp2_with fail
 refine R.out.mono ?_
 rintro e w1 ⟨rfl,rfl⟩
 go_wp2_with fail
 go_ret
 exact⟨rfl,rfl⟩
theorem ref_rot11 (x:Int) (w:World) :
  Calls Tryz.prog 113 #[.int .u32 x,.int .i64 11] w fun e w'=>e=.returned (.int .u32 (rotP 2097152 2048 x))∧w=w':=by
 have R:=Hh (bits_Rot11 x w);go_enter Tryz.func113,Tryz.ntmps113
 go_wp2_with fail
 refine R.out.mono ?_
 rintro e w1 ⟨rfl,rfl⟩
 go_wp2_with fail
 go_ret
 exact⟨rfl,rfl⟩
theorem bits_Rot25 (x:Int) (w:World) :
  Calls Tryz.prog 147 #[.int .u32 x,.int .i64 (-25)] w fun e w'=>e=.returned (.int .u32 (rotP 128 33554432 x))∧w=w':=by
 have e1:bits .and .u64 (IntKind.u64.wrap (-25)) 31=7:=by kernel_rfl
 have e2:IntKind.u64.wrap (32-7)=25:=by kernel_rfl
 go_enter Tryz.func147,Tryz.ntmps147
 go_wp2_with fail
 go_ret
 exact⟨rfl,rfl⟩
theorem sha_rot25 (x:Int) (w:World) :
  Calls Tryz.prog 108 #[.int .u32 x,.int .i64 25] w fun e w'=>e=.returned (.int .u32 (rotP 128 33554432 x))∧w=w':=by
 have R:=Hh (bits_Rot25 x w);go_enter Tryz.func108,Tryz.ntmps108
 go_wp2_with fail
 refine R.out.mono ?_
 rintro e w1 ⟨rfl,rfl⟩
 go_wp2_with fail
 go_ret
 exact⟨rfl,rfl⟩
theorem ref_rot25 (x:Int) (w:World) :
  Calls Tryz.prog 113 #[.int .u32 x,.int .i64 25] w fun e w'=>e=.returned (.int .u32 (rotP 128 33554432 x))∧w=w':=by
 have R:=Hh (bits_Rot25 x w);go_enter Tryz.func113,Tryz.ntmps113
 go_wp2_with fail
 refine R.out.mono ?_
 rintro e w1 ⟨rfl,rfl⟩
 go_wp2_with fail
 go_ret
 exact⟨rfl,rfl⟩
theorem bits_Rot2 (x:Int) (w:World) :
  Calls Tryz.prog 147 #[.int .u32 x,.int .i64 (-2)] w fun e w'=>e=.returned (.int .u32 (rotP 1073741824 4 x))∧w=w':=by
 have e1:bits .and .u64 (IntKind.u64.wrap (-2)) 31=30:=by kernel_rfl
 have e2:IntKind.u64.wrap (32-30)=2:=by kernel_rfl
 go_enter Tryz.func147,Tryz.ntmps147
 go_wp2_with fail
 go_ret
 exact⟨rfl,rfl⟩
theorem sha_rot2 (x:Int) (w:World) :
  Calls Tryz.prog 108 #[.int .u32 x,.int .i64 2] w fun e w'=>e=.returned (.int .u32 (rotP 1073741824 4 x))∧w=w':=by
 have R:=Hh (bits_Rot2 x w);go_enter Tryz.func108,Tryz.ntmps108
 go_wp2_with fail
 refine R.out.mono ?_
 rintro e w1 ⟨rfl,rfl⟩
 go_wp2_with fail
 go_ret
 exact⟨rfl,rfl⟩
theorem ref_rot2 (x:Int) (w:World) :
  Calls Tryz.prog 113 #[.int .u32 x,.int .i64 2] w fun e w'=>e=.returned (.int .u32 (rotP 1073741824 4 x))∧w=w':=by
 have R:=Hh (bits_Rot2 x w);go_enter Tryz.func113,Tryz.ntmps113
 go_wp2_with fail
 refine R.out.mono ?_
 rintro e w1 ⟨rfl,rfl⟩
 go_wp2_with fail
 go_ret
 exact⟨rfl,rfl⟩
theorem bits_Rot13 (x:Int) (w:World) :
  Calls Tryz.prog 147 #[.int .u32 x,.int .i64 (-13)] w fun e w'=>e=.returned (.int .u32 (rotP 524288 8192 x))∧w=w':=by
 have e1:bits .and .u64 (IntKind.u64.wrap (-13)) 31=19:=by kernel_rfl
 have e2:IntKind.u64.wrap (32-19)=13:=by kernel_rfl
 go_enter Tryz.func147,Tryz.ntmps147
 go_wp2_with fail
 go_ret
 exact⟨rfl,rfl⟩
theorem sha_rot13 (x:Int) (w:World) :
  Calls Tryz.prog 108 #[.int .u32 x,.int .i64 13] w fun e w'=>e=.returned (.int .u32 (rotP 524288 8192 x))∧w=w':=by
 have R:=Hh (bits_Rot13 x w);go_enter Tryz.func108,Tryz.ntmps108
 go_wp2_with fail
 refine R.out.mono ?_
 rintro e w1 ⟨rfl,rfl⟩
 go_wp2_with fail
 go_ret
 exact⟨rfl,rfl⟩
theorem ref_rot13 (x:Int) (w:World) :
  Calls Tryz.prog 113 #[.int .u32 x,.int .i64 13] w fun e w'=>e=.returned (.int .u32 (rotP 524288 8192 x))∧w=w':=by
 have R:=Hh (bits_Rot13 x w);go_enter Tryz.func113,Tryz.ntmps113
 go_wp2_with fail
 refine R.out.mono ?_
 rintro e w1 ⟨rfl,rfl⟩
 go_wp2_with fail
 go_ret
 exact⟨rfl,rfl⟩
theorem bits_Rot22 (x:Int) (w:World) :
  Calls Tryz.prog 147 #[.int .u32 x,.int .i64 (-22)] w fun e w'=>e=.returned (.int .u32 (rotP 1024 4194304 x))∧w=w':=by
 have e1:bits .and .u64 (IntKind.u64.wrap (-22)) 31=10:=by kernel_rfl
 have e2:IntKind.u64.wrap (32-10)=22:=by kernel_rfl
 go_enter Tryz.func147,Tryz.ntmps147
 go_wp2_with fail
 go_ret
 exact⟨rfl,rfl⟩
theorem sha_rot22 (x:Int) (w:World) :
  Calls Tryz.prog 108 #[.int .u32 x,.int .i64 22] w fun e w'=>e=.returned (.int .u32 (rotP 1024 4194304 x))∧w=w':=by
 have R:=Hh (bits_Rot22 x w);go_enter Tryz.func108,Tryz.ntmps108
 go_wp2_with fail
 refine R.out.mono ?_
 rintro e w1 ⟨rfl,rfl⟩
 go_wp2_with fail
 go_ret
 exact⟨rfl,rfl⟩
theorem ref_rot22 (x:Int) (w:World) :
  Calls Tryz.prog 113 #[.int .u32 x,.int .i64 22] w fun e w'=>e=.returned (.int .u32 (rotP 1024 4194304 x))∧w=w':=by
 have R:=Hh (bits_Rot22 x w);go_enter Tryz.func113,Tryz.ntmps113
 go_wp2_with fail
 refine R.out.mono ?_
 rintro e w1 ⟨rfl,rfl⟩
 go_wp2_with fail
 go_ret
 exact⟨rfl,rfl⟩
def rowV (l:List Int):Array Value:=(l.map (Value.int .u32)).toArray
def getW (l:List Int) (i:Nat):Int:=l.getD i 0
theorem rowV_size (l:List Int):(rowV l).size=l.length:=by simp[rowV]
theorem rowV_get (l:List Int) (i:Nat) (h:i<l.length):(rowV l)[i]? = some (.int .u32 (getW l i)):=by
 simp[rowV,getW,h]
theorem rowV_set (l:List Int) (i:Nat) (v:Int):(rowV l).setIfInBounds i (.int .u32 v)=rowV (l.set i v):=by
 simp[rowV,List.map_set]
def byteI (bs:List UInt8) (i:Nat):Int:=((bs.getD i 0).toNat:Int)
def wordP (b0 b1 b2 b3:Int):Int:=bits .or .u32 (bits .or .u32 (bits .or .u32 (IntKind.u32.wrap (IntKind.u32.wrap b0*16777216)) (IntKind.u32.wrap (IntKind.u32.wrap b1*65536))) (IntKind.u32.wrap (IntKind.u32.wrap b2*256))) (IntKind.u32.wrap b3)
def mixP (x y w7 w16:Int):Int :=
 IntKind.u32.wrap (IntKind.u32.wrap (IntKind.u32.wrap (bits .xor .u32 (bits .xor .u32 (rotP 32768 131072 y) (rotP 8192 524288 y)) (y/1024)+w7)+bits .xor .u32 (bits .xor .u32 (rotP 33554432 128 x) (rotP 16384 262144 x)) (x/8))+w16)
structure S8 where
 a:Int
 b:Int
 c:Int
 d:Int
 e:Int
 f:Int
 g:Int
 h:Int
def S8.cells (s:S8):Array Value:=#[.int .u32 s.a,.int .u32 s.b,.int .u32 s.c,.int .u32 s.d,.int .u32 s.e,.int .u32 s.f,.int .u32 s.g,.int .u32 s.h]
def S8.list (s:S8):List Int:=[s.a,s.b,s.c,s.d,s.e,s.f,s.g,s.h]
theorem S8.cells_eq (s:S8):s.cells=rowV s.list:=rfl
theorem S8.one (s:S8):s.cells.all (·.oneCell')=true:=by simp[S8.cells,Value.oneCell']
def tP (s:S8) (k w:Int):Int :=
 s.h+bits .xor .u32 (bits .xor .u32 (rotP 67108864 64 s.e) (rotP 2097152 2048 s.e)) (rotP 128 33554432 s.e)+bits .xor .u32 (bits .and .u32 s.e s.f) (bits .and .u32 (bits .xor .u32 IntKind.u32.max s.e) s.g)+k+w
def uP (s:S8):Int :=
 bits .xor .u32 (bits .xor .u32 (rotP 1073741824 4 s.a) (rotP 524288 8192 s.a)) (rotP 1024 4194304 s.a)+bits .xor .u32 (bits .xor .u32 (bits .and .u32 s.a s.b) (bits .and .u32 s.a s.c)) (bits .and .u32 s.b s.c)
def roundP (s:S8) (k w:Int):S8:=⟨(tP s k w+uP s)%4294967296,s.a,s.b,s.c,(s.d+tP s k w)%4294967296,s.e,s.f,s.g⟩
def roundsP (K W:List Int) (h:S8):Nat→S8
 | 0=>h
 | k+1=>roundP (roundsP K W h k) (getW K k) (getW W k)
def schedP (bs:List UInt8):Nat→List Int
 | 0=>List.replicate 64 0
 | k+1=>(schedP bs k).set k (if k<16 then wordP (byteI bs (4*k)) (byteI bs (4*k+1)) (byteI bs (4*k+2)) (byteI bs (4*k+3))
   else mixP (getW (schedP bs k) (k-15)) (getW (schedP bs k) (k-2)) (getW (schedP bs k) (k-7)) (getW (schedP bs k) (k-16)))
theorem schedP_len (bs:List UInt8):∀ k,(schedP bs k).length=64
 | 0=>by simp[schedP]
 | k+1=>by simp[schedP,schedP_len bs k]
theorem schedP_lo (bs:List UInt8) (k:Nat) (h:k<16):(rowV (schedP bs k)).setIfInBounds k (.int .u32 (wordP (byteI bs (4*k)) (byteI bs (4*k+1)) (byteI bs (4*k+2)) (byteI bs (4*k+3))))=rowV (schedP bs (k+1)):=by
 rw[rowV_set,schedP,if_pos h]
theorem schedP_hi (bs:List UInt8) (k:Nat) (h:16≤k):(rowV (schedP bs k)).setIfInBounds k (.int .u32 (mixP (getW (schedP bs k) (k-15)) (getW (schedP bs k) (k-2)) (getW (schedP bs k) (k-7)) (getW (schedP bs k) (k-16))))=rowV (schedP bs (k+1)):=by
 rw[rowV_set,schedP,if_neg (by omega)]
def addP (h s:List Int):Nat→List Int
 | 0=>h
 | k+1=>(addP h s k).set k (IntKind.u32.wrap (getW (addP h s k) k+getW s k))
theorem addP_len (h s:List Int):∀ k,(addP h s k).length=h.length
 | 0=>rfl
 | k+1=>by simp[addP,addP_len h s k]
def blockP (K:List Int) (h:S8) (bs:List UInt8):S8 :=
 let s:=roundsP K (schedP bs 64) h 64
 ⟨IntKind.u32.wrap (h.a+s.a),IntKind.u32.wrap (h.b+s.b),IntKind.u32.wrap (h.c+s.c),IntKind.u32.wrap (h.d+s.d),IntKind.u32.wrap (h.e+s.e),IntKind.u32.wrap (h.f+s.f),IntKind.u32.wrap (h.g+s.g),IntKind.u32.wrap (h.h+s.h)⟩
theorem size_w8:(Tryz.prog.info? 116).map (·.size)=some 8:=by kernel_rfl
theorem size_u32:(Tryz.prog.info? 114).map (·.size)=some 1:=by kernel_rfl
theorem byteI_cell {H:Snap}{b off c:Nat}{bs:List UInt8}(hb:IsBytes H (some ⟨b,off,none⟩) c bs) (i:Nat) (hi:i<bs.length):H.cell? ⟨b,off+i,none⟩=some (.int .u8 (byteI bs i)):=by
 obtain⟨b',off',e,h⟩:=hb.at_ (by omega)
 cases e
 rw[h i hi]
 simp[byteI,hi]
theorem sha_round32 {H:Snap}{b off c:Nat}{bs:List UInt8}(hb:IsBytes H (some ⟨b,off,none⟩) c bs) (hl:bs.length=64) {hg kg:Nat}{h0:S8}{KK:List Int}(w:World) (hH:Holds w H)
  (hh:Blk w hg 116 h0.cells) (hKb:Blk w kg 115 (rowV KK)) (hK64:KK.length=64) :
  Calls Tryz.prog 85 #[.pointer (some ⟨hg,0,none⟩),.pointer (some ⟨kg,0,none⟩),.slice (some ⟨b,off,none⟩) 64 c] w fun e w'=>(∃ v,e=.returned v)∧Blk w' hg 116 (blockP KK h0 bs).cells∧w.grownBy w' (some hg):=by
 have HN:=Hh (Blk.new w 115 (rowV (schedP bs 0)));have HB:=Hh hb;have HL:=Hh hl;have HH:=Hh hH;have H64:=Hh hK64;clear hb hl hH hK64;go_enter Tryz.func85,Tryz.ntmps85
 go_wp2_with fail
 go_loopw [17] (fun v17 wr=>∃ k:Nat,v17=.int .i64 (k:Int)∧k≤64∧Blk wr w.heap.size 115 (rowV (schedP bs k))∧Below w.heap.size w wr) (fun v17 _=>(64-intOf v17).toNat)
 case atStart=>exact⟨0,rfl,by omega,HN.out,below_box _ _⟩
 case round =>
  obtain⟨k,rfl,hk64,hW,hbw⟩:=hrel
  by_cases hlt:(k:Int)<64
  ·by_cases h16:(k:Int)<16
   ·obtain⟨j0,hj0⟩:∃ j,4*k=j:=⟨_,rfl⟩
    obtain⟨j1,hj1⟩:∃ j,4*k+1=j:=⟨_,rfl⟩
    obtain⟨j2,hj2⟩:∃ j,4*k+2=j:=⟨_,rfl⟩
    obtain⟨j3,hj3⟩:∃ j,4*k+3=j:=⟨_,rfl⟩
    have W0:IntKind.i64.wrap (4*(k:Int))=(j0:Int):=by rw[← hj0];exact IntWalk.i64_in _ (by omega)
    have W1:IntKind.i64.wrap ((j0:Int)+1)=(j1:Int):=by rw[← hj1,← hj0];exact IntWalk.i64_in _ (by omega)
    have W2:IntKind.i64.wrap ((j0:Int)+2)=(j2:Int):=by rw[← hj2,← hj0];exact IntWalk.i64_in _ (by omega)
    have W3:IntKind.i64.wrap ((j0:Int)+3)=(j3:Int):=by rw[← hj3,← hj0];exact IntWalk.i64_in _ (by omega)
    have l0:(j0:Int)<64:=by omega
    have l1:(j1:Int)<64:=by omega
    have l2:(j2:Int)<64:=by omega
    have l3:(j3:Int)<64:=by omega
    have b0:=byteI_cell HB.out j0 (by have:=HL.out;omega);have b1:=byteI_cell HB.out j1 (by have:=HL.out;omega);have b2:=byteI_cell HB.out j2 (by have:=HL.out;omega);have b3:=byteI_cell HB.out j3 (by have:=HL.out;omega);have HJ:=Hh (And.intro hj0 (And.intro hj1 (And.intro hj2 hj3)));clear hj0 hj1 hj2 hj3;have HHr:=Hh (HH.out.below hbw (Nat.le_refl _));have hWd:=hW.drew;go_upto_region 5 with fail
    refine wp_region_ways 35 (fun wx=>wx.cell? ⟨b,off+j0,none⟩=some (.int .u8 (byteI bs j0))∧wx.cell? ⟨b,off+j1,none⟩=some (.int .u8 (byteI bs j1))∧wx.cell? ⟨b,off+j2,none⟩=some (.int .u8 (byteI bs j2))∧wx.cell? ⟨b,off+j3,none⟩=some (.int .u8 (byteI bs j3))) (by kernel_rfl) (⟨HHr.out.drew.cell b0,HHr.out.drew.cell b1,HHr.out.drew.cell b2,HHr.out.drew.cell b3⟩) (fun hHeld=>?_)
    refine Tk 0 rfl hHeld ?_
    refine Tk 1 rfl hHeld ?_
    refine Tk 2 rfl hHeld ?_
    refine Tk 3 rfl hHeld ?_
    refine Tk 4 rfl hHeld ?_
    refine Tk 5 rfl hHeld ?_
    refine Tk 6 rfl hHeld ?_
    refine Tk 7 rfl hHeld ?_
    refine Tk 8 rfl hHeld ?_
    refine Tk 9 rfl hHeld ?_
    refine Tk 10 rfl hHeld ?_
    refine Tk 11 rfl hHeld ?_
    refine Tk 12 rfl hHeld ?_
    refine Tk 13 rfl hHeld ?_
    refine Tk 14 rfl hHeld ?_
    refine Tk 15 rfl hHeld ?_
    refine Tk 16 rfl hHeld ?_
    refine Tk 17 rfl hHeld ?_
    refine Tk 18 rfl hHeld ?_
    refine Tk 19 rfl hHeld ?_
    refine Tk 20 rfl hHeld ?_
    refine Tk 21 rfl hHeld ?_
    refine Tk 22 rfl hHeld ?_
    refine Tk 23 rfl hHeld ?_
    refine Tk 24 rfl hHeld ?_
    refine Tk 25 rfl hHeld ?_
    refine Tk 26 rfl hHeld ?_
    refine Tk 27 rfl hHeld ?_
    refine Tk 28 rfl hHeld ?_
    refine Tk 29 rfl hHeld ?_
    refine Tk 30 rfl hHeld ?_
    refine Tk 31 rfl hHeld ?_
    refine Tk 32 rfl hHeld ?_
    refine Tk 33 rfl hHeld ?_
    refine Tk 34 rfl hHeld ?_
    refine To 35 rfl fun K hK=>?_
    rw[if_pos (by rfl)]
    refine wp_store_cell _ _ _ rfl w.heap.size k (.int .u32 (wordP (byteI bs j0) (byteI bs j1) (byteI bs j2) (byteI bs j3))) rfl rfl _ _ hWd size_u32 (by rw[rowV_size,schedP_len];omega) rfl fun w9 hW9 hg9=>?_
    refine Kz hK ?_
    clear hK K
    refine Wd ?_
    clear hHeld;have hbn:Below w.heap.size w w9:=hbw.drew.grown hg9 hbw.size (by rintro q ⟨⟩;exact Nat.le_refl _)
    have hWn:Blk w9 w.heap.size 115 (rowV (schedP bs (k+1))):=by
     obtain⟨rfl,rfl,rfl,rfl⟩:=HJ.out;rw[schedP_lo _ _ (by omega)]at hW9
     exact hW9
    clear hW9 hg9 hWd;go_wp2_with fail
    go_roundw
    case rel=>exact⟨k+1,by go_num,by omega,hWn,hbn⟩
    case measure=>simp[intOf];omega
   ·have hk16:16≤k:=by omega
    obtain⟨a15,ha15⟩:∃ j,k-15=j:=⟨_,rfl⟩
    obtain⟨a2,ha2⟩:∃ j,k-2=j:=⟨_,rfl⟩
    obtain⟨a7,ha7⟩:∃ j,k-7=j:=⟨_,rfl⟩
    obtain⟨a16,ha16⟩:∃ j,k-16=j:=⟨_,rfl⟩
    have W15:IntKind.i64.wrap ((k:Int)-15)=(a15:Int):=by rw[← ha15,show((k-15:Nat):Int)=(k:Int)-15 by omega];exact IntWalk.i64_in _ (by omega)
    have W2:IntKind.i64.wrap ((k:Int)-2)=(a2:Int):=by rw[← ha2,show((k-2:Nat):Int)=(k:Int)-2 by omega];exact IntWalk.i64_in _ (by omega)
    have W7:IntKind.i64.wrap ((k:Int)-7)=(a7:Int):=by rw[← ha7,show((k-7:Nat):Int)=(k:Int)-7 by omega];exact IntWalk.i64_in _ (by omega)
    have W16:IntKind.i64.wrap ((k:Int)-16)=(a16:Int):=by rw[← ha16,show((k-16:Nat):Int)=(k:Int)-16 by omega];exact IntWalk.i64_in _ (by omega)
    have l15:(a15:Int)<64:=by omega
    have l2:(a2:Int)<64:=by omega
    have l7:(a7:Int)<64:=by omega
    have l16:(a16:Int)<64:=by omega
    have hWd:=hW.drew;have b15:=hWd.cell a15 (rowV_get _ _ (by rw[schedP_len];omega));have b2:=hWd.cell a2 (rowV_get _ _ (by rw[schedP_len];omega));have b7:=hWd.cell a7 (rowV_get _ _ (by rw[schedP_len];omega));have b16:=hWd.cell a16 (rowV_get _ _ (by rw[schedP_len];omega));have HJ:=Hh (And.intro ha15 (And.intro ha2 (And.intro ha7 ha16)));obtain⟨x15,hx15⟩:∃ x,getW (schedP bs k) a15=x:=⟨_,rfl⟩
    obtain⟨x2,hx2⟩:∃ x,getW (schedP bs k) a2=x:=⟨_,rfl⟩
    obtain⟨x7,hx7⟩:∃ x,getW (schedP bs k) a7=x:=⟨_,rfl⟩
    obtain⟨x16,hx16⟩:∃ x,getW (schedP bs k) a16=x:=⟨_,rfl⟩
    rw[hx15]at b15;rw[hx2]at b2;rw[hx7]at b7;rw[hx16]at b16;have HX:=Hh (And.intro hx15 (And.intro hx2 (And.intro hx7 hx16)));clear ha15 ha2 ha7 ha16 hx15 hx2 hx7 hx16;go_upto_region 6 with fail
    refine wp_region_ways 10 (fun wx=>wx.cell? ⟨w.heap.size,a15,none⟩=some (.int .u32 x15)∧wx.cell? ⟨w.heap.size,a2,none⟩=some (.int .u32 x2)) (by kernel_rfl) (⟨b15,b2⟩) (fun hHeld=>?_)
    refine TkS 0 rfl hHeld ?_
    refine TkS 1 rfl hHeld ?_
    refine TkS 2 rfl hHeld ?_
    refine TkS 3 rfl hHeld ?_
    refine TkS 4 rfl hHeld ?_
    refine TkS 5 rfl hHeld ?_
    refine TkS 6 rfl hHeld ?_
    refine TkS 7 rfl hHeld ?_
    refine TkS 8 rfl hHeld ?_
    refine TkS 9 rfl hHeld ?_
    refine Wd ?_
    clear hHeld;go_upto_region 7 with fail
    refine wp_region_ways 29 (fun wx=>wx.cell? ⟨w.heap.size,a7,none⟩=some (.int .u32 x7)∧wx.cell? ⟨w.heap.size,a16,none⟩=some (.int .u32 x16)) (by kernel_rfl) (⟨b7,b16⟩) (fun hHeld=>?_)
    refine Tk 0 rfl hHeld ?_
    refine Tk 1 rfl hHeld ?_
    refine Tk 3 rfl hHeld ?_
    refine Tk 6 rfl hHeld ?_
    refine Tk 7 rfl hHeld ?_
    refine Tk 9 rfl hHeld ?_
    refine Tk 10 rfl hHeld ?_
    refine Tk 11 rfl hHeld ?_
    refine Tk 12 rfl hHeld ?_
    refine Tk 14 rfl hHeld ?_
    refine Tk 16 rfl hHeld ?_
    refine Tk 19 rfl hHeld ?_
    refine Tk 20 rfl hHeld ?_
    refine Tk 23 rfl hHeld ?_
    refine Tk 24 rfl hHeld ?_
    refine Tk 25 rfl hHeld ?_
    refine Tk 26 rfl hHeld ?_
    refine To 2 rfl fun K hK=>?_
    go_simp
    refine(sha_rot17 _ _).mono ?_
    rintro e w5 ⟨rfl,rfl⟩
    clear hHeld
    refine hK.out _ _ (fun _=>?_) (fun hHeld=>?_)
    ·exact⟨b7,b16⟩
    clear hK K;replace hHeld:=hHeld (by decide)
    try simp only[Act.put,zz1,zz2,zz3,zz4,zz5,zz6]
    refine To 4 rfl fun K hK=>?_
    go_simp
    refine(sha_rot19 _ _).mono ?_
    rintro e w5 ⟨rfl,rfl⟩
    clear hHeld
    refine hK.out _ _ (fun _=>?_) (fun hHeld=>?_)
    ·exact⟨b7,b16⟩
    clear hK K;replace hHeld:=hHeld (by decide)
    try simp only[Act.put,zz1,zz2,zz3,zz4,zz5,zz6]
    refine Tk 5 rfl hHeld ?_
    refine Tk 8 rfl hHeld ?_
    refine Tk 13 rfl hHeld ?_
    refine To 15 rfl fun K hK=>?_
    go_simp
    refine(sha_rot7 _ _).mono ?_
    rintro e w5 ⟨rfl,rfl⟩
    clear hHeld
    refine hK.out _ _ (fun _=>?_) (fun hHeld=>?_)
    ·exact⟨b7,b16⟩
    clear hK K;replace hHeld:=hHeld (by decide)
    try simp only[Act.put,zz1,zz2,zz3,zz4,zz5,zz6]
    refine To 17 rfl fun K hK=>?_
    go_simp
    refine(sha_rot18 _ _).mono ?_
    rintro e w5 ⟨rfl,rfl⟩
    clear hHeld
    refine hK.out _ _ (fun _=>?_) (fun hHeld=>?_)
    ·exact⟨b7,b16⟩
    clear hK K;replace hHeld:=hHeld (by decide)
    try simp only[Act.put,zz1,zz2,zz3,zz4,zz5,zz6]
    refine Tk 18 rfl hHeld ?_
    refine Tk 21 rfl hHeld ?_
    refine Tk 22 rfl hHeld ?_
    refine Tk 27 rfl hHeld ?_
    refine Tk 28 rfl hHeld ?_
    refine To 29 rfl fun K hK=>?_
    rw[if_pos (by rfl)]
    refine wp_store_cell _ _ _ rfl w.heap.size k (.int .u32 (mixP x15 x2 x7 x16)) rfl rfl _ _ hWd size_u32 (by rw[rowV_size,schedP_len];omega) rfl fun w9 hW9 hg9=>?_
    refine Kz hK ?_
    clear hK K
    refine Wd ?_
    clear hHeld;have hbn:Below w.heap.size w w9:=hbw.drew.drew.grown hg9 hbw.size (by rintro q ⟨⟩;exact Nat.le_refl _)
    have hWn:Blk w9 w.heap.size 115 (rowV (schedP bs (k+1))):=by
     obtain⟨rfl,rfl,rfl,rfl⟩:=HJ.out;obtain⟨rfl,rfl,rfl,rfl⟩:=HX.out;rw[schedP_hi _ _ (by omega)]at hW9
     exact hW9
    clear hW9 hg9 hWd;go_wp2_with fail
    go_roundw
    case rel=>exact⟨k+1,by go_num,by omega,hWn,hbn⟩
    case measure=>simp[intOf];omega
  ·obtain rfl:k=64:=by omega
   rw[show((64:Nat):Int)=64 from rfl]at hlt⊢;have hhr:=hh.below hbw;have hKr:=hKb.below hbw;have d0:wr.cell? ⟨hg,0,none⟩=some (.int .u32 h0.a):=hhr.cell 0 rfl;have d1:wr.cell? ⟨hg,1,none⟩=some (.int .u32 h0.b):=hhr.cell 1 rfl;have d2:wr.cell? ⟨hg,2,none⟩=some (.int .u32 h0.c):=hhr.cell 2 rfl;have d3:wr.cell? ⟨hg,3,none⟩=some (.int .u32 h0.d):=hhr.cell 3 rfl;have d4:wr.cell? ⟨hg,4,none⟩=some (.int .u32 h0.e):=hhr.cell 4 rfl;have d5:wr.cell? ⟨hg,5,none⟩=some (.int .u32 h0.f):=hhr.cell 5 rfl;have d6:wr.cell? ⟨hg,6,none⟩=some (.int .u32 h0.g):=hhr.cell 6 rfl;have d7:wr.cell? ⟨hg,7,none⟩=some (.int .u32 h0.h):=hhr.cell 7 rfl;have HZ:=Hh hbw.size;have HGW:Hid (hg<w.heap.size∧kg<w.heap.size):=⟨hh.lt,hKb.lt⟩
   obtain⟨G,hG⟩:∃ G,wr.heap.size=G:=⟨_,rfl⟩
   have HN2:=Hh (Blk.new wr 116 h0.cells);rw[hG]at HN2;have hW2:=hW.alloc (.cells h0.cells 116);have hb2:=hbw.alloc hbw.size (.cells h0.cells 116);have HG:=Hh hG;have HGS:Hid (w.heap.size<G):=by have:=hW.lt;rw[Hid];omega
   clear HN hlt hk64 hhr hG;go_wp2_with fail
   rw[HG.out];go_loopw [98] (fun v98 wx=>∃ k:Nat,v98=.int .i64 (k:Int)∧k≤64∧Blk wx G 116 (roundsP KK (schedP bs 64) h0 k).cells∧Blk wx w.heap.size 115 (rowV (schedP bs 64))∧Below w.heap.size w wx) (fun v98 _=>(64-intOf v98).toNat)
   case atStart=>exact⟨0,rfl,by omega,HN2.out,hW2,hb2⟩
   case round =>
    clear hW2 hb2 HN2 d0 d1 d2 d3 d4 d5 d6 d7 hW hKr;obtain⟨k,rfl,hk64,hS,hWx,hbx⟩:=hrel
    by_cases hlt:(k:Int)<64
    ·obtain⟨s,hs⟩:∃ s,roundsP KK (schedP bs 64) h0 k=s:=⟨_,rfl⟩
     rw[hs]at hS;have HSE:=Hh hs;clear hs;have c0:wr.cell? ⟨G,0,none⟩=some (.int .u32 s.a):=hS.cell 0 rfl;have c1:wr.cell? ⟨G,1,none⟩=some (.int .u32 s.b):=hS.cell 1 rfl;have c2:wr.cell? ⟨G,2,none⟩=some (.int .u32 s.c):=hS.cell 2 rfl;have c3:wr.cell? ⟨G,3,none⟩=some (.int .u32 s.d):=hS.cell 3 rfl;have c4:wr.cell? ⟨G,4,none⟩=some (.int .u32 s.e):=hS.cell 4 rfl;have c5:wr.cell? ⟨G,5,none⟩=some (.int .u32 s.f):=hS.cell 5 rfl;have c6:wr.cell? ⟨G,6,none⟩=some (.int .u32 s.g):=hS.cell 6 rfl;have c7:wr.cell? ⟨G,7,none⟩=some (.int .u32 s.h):=hS.cell 7 rfl;have ck:=(hKb.below hbx).cell k (rowV_get _ _ (by have:=H64.out;omega));have cw:=hWx.cell k (rowV_get _ _ (by rw[schedP_len];omega));obtain⟨xk,hxk⟩:∃ x,getW KK k=x:=⟨_,rfl⟩
     obtain⟨xw,hxw⟩:∃ x,getW (schedP bs 64) k=x:=⟨_,rfl⟩
     rw[hxk]at ck;rw[hxw]at cw;have HX:=Hh (And.intro hxk hxw);clear hxk hxw;go_upto_region 13 with fail
     refine wp_region_ways 6 (fun wx=>wx.cell? ⟨G,0,none⟩=some (.int .u32 s.a)∧wx.cell? ⟨G,4,none⟩=some (.int .u32 s.e)) (by kernel_rfl) (⟨c0,c4⟩) (fun hHeld=>?_)
     refine TkS 0 rfl hHeld ?_
     refine TkS 1 rfl hHeld ?_
     refine TkS 2 rfl hHeld ?_
     refine TkS 3 rfl hHeld ?_
     refine TkS 4 rfl hHeld ?_
     refine TkS 5 rfl hHeld ?_
     refine Wd ?_
     clear hHeld;go_upto_region 14 with fail
     refine wp_region_ways 33 (fun wx=>wx.cell? ⟨G,7,none⟩=some (.int .u32 s.h)∧wx.cell? ⟨G,5,none⟩=some (.int .u32 s.f)∧wx.cell? ⟨G,6,none⟩=some (.int .u32 s.g)∧wx.cell? ⟨kg,k,none⟩=some (.int .u32 xk)∧wx.cell? ⟨w.heap.size,k,none⟩=some (.int .u32 xw)) (by kernel_rfl) (⟨c7,c5,c6,ck,cw⟩) (fun hHeld=>?_)
     refine TkS 0 rfl hHeld ?_
     refine TkS 1 rfl hHeld ?_
     refine TkS 2 rfl hHeld ?_
     refine TkS 4 rfl hHeld ?_
     refine TkS 7 rfl hHeld ?_
     refine TkS 11 rfl hHeld ?_
     refine TkS 12 rfl hHeld ?_
     refine TkS 13 rfl hHeld ?_
     refine TkS 14 rfl hHeld ?_
     refine TkS 15 rfl hHeld ?_
     refine TkS 16 rfl hHeld ?_
     refine TkS 17 rfl hHeld ?_
     refine TkS 18 rfl hHeld ?_
     refine TkS 19 rfl hHeld ?_
     refine TkS 20 rfl hHeld ?_
     refine TkS 22 rfl hHeld ?_
     refine TkS 23 rfl hHeld ?_
     refine TkS 24 rfl hHeld ?_
     refine TkS 25 rfl hHeld ?_
     refine TkS 26 rfl hHeld ?_
     refine TkS 28 rfl hHeld ?_
     refine TkS 29 rfl hHeld ?_
     refine TkS 30 rfl hHeld ?_
     refine To 3 rfl fun K hK=>?_
     go_simp
     refine(sha_rot6 _ _).mono ?_
     rintro e w5 ⟨rfl,rfl⟩
     clear hHeld
     refine hK.out _ _ (fun _=>?_) (fun hHeld=>?_)
     ·exact⟨c7,c5,c6,ck,cw⟩
     clear hK K;replace hHeld:=hHeld (by decide)
     try simp only[Act.put,zz1,zz2,zz3,zz4,zz5,zz6]
     refine To 5 rfl fun K hK=>?_
     go_simp
     refine(sha_rot11 _ _).mono ?_
     rintro e w5 ⟨rfl,rfl⟩
     clear hHeld
     refine hK.out _ _ (fun _=>?_) (fun hHeld=>?_)
     ·exact⟨c7,c5,c6,ck,cw⟩
     clear hK K;replace hHeld:=hHeld (by decide)
     try simp only[Act.put,zz1,zz2,zz3,zz4,zz5,zz6]
     refine TkS 6 rfl hHeld ?_
     refine To 8 rfl fun K hK=>?_
     go_simp
     refine(sha_rot25 _ _).mono ?_
     rintro e w5 ⟨rfl,rfl⟩
     clear hHeld
     refine hK.out _ _ (fun _=>?_) (fun hHeld=>?_)
     ·exact⟨c7,c5,c6,ck,cw⟩
     clear hK K;replace hHeld:=hHeld (by decide)
     try simp only[Act.put,zz1,zz2,zz3,zz4,zz5,zz6]
     refine TkS 9 rfl hHeld ?_
     refine TkS 10 rfl hHeld ?_
     refine TkS 21 rfl hHeld ?_
     refine TkS 27 rfl hHeld ?_
     refine TkS 31 rfl hHeld ?_
     refine TkS 32 rfl hHeld ?_
     refine Wd ?_
     clear hHeld;go_upto_region 15 with fail
     refine wp_region_ways 25 (fun wx=>wx.cell? ⟨G,1,none⟩=some (.int .u32 s.b)∧wx.cell? ⟨G,2,none⟩=some (.int .u32 s.c)) (by kernel_rfl) (⟨c1,c2⟩) (fun hHeld=>?_)
     refine TkS 0 rfl hHeld ?_
     refine TkS 2 rfl hHeld ?_
     refine TkS 5 rfl hHeld ?_
     refine TkS 8 rfl hHeld ?_
     refine TkS 9 rfl hHeld ?_
     refine TkS 10 rfl hHeld ?_
     refine TkS 11 rfl hHeld ?_
     refine TkS 12 rfl hHeld ?_
     refine TkS 13 rfl hHeld ?_
     refine TkS 14 rfl hHeld ?_
     refine TkS 15 rfl hHeld ?_
     refine TkS 16 rfl hHeld ?_
     refine TkS 17 rfl hHeld ?_
     refine TkS 18 rfl hHeld ?_
     refine TkS 19 rfl hHeld ?_
     refine TkS 20 rfl hHeld ?_
     refine TkS 21 rfl hHeld ?_
     refine TkS 22 rfl hHeld ?_
     refine To 1 rfl fun K hK=>?_
     go_simp
     refine(sha_rot2 _ _).mono ?_
     rintro e w5 ⟨rfl,rfl⟩
     clear hHeld
     refine hK.out _ _ (fun _=>?_) (fun hHeld=>?_)
     ·exact⟨c1,c2⟩
     clear hK K;replace hHeld:=hHeld (by decide)
     try simp only[Act.put,zz1,zz2,zz3,zz4,zz5,zz6]
     refine To 3 rfl fun K hK=>?_
     go_simp
     refine(sha_rot13 _ _).mono ?_
     rintro e w5 ⟨rfl,rfl⟩
     clear hHeld
     refine hK.out _ _ (fun _=>?_) (fun hHeld=>?_)
     ·exact⟨c1,c2⟩
     clear hK K;replace hHeld:=hHeld (by decide)
     try simp only[Act.put,zz1,zz2,zz3,zz4,zz5,zz6]
     refine TkS 4 rfl hHeld ?_
     refine To 6 rfl fun K hK=>?_
     go_simp
     refine(sha_rot22 _ _).mono ?_
     rintro e w5 ⟨rfl,rfl⟩
     clear hHeld
     refine hK.out _ _ (fun _=>?_) (fun hHeld=>?_)
     ·exact⟨c1,c2⟩
     clear hK K;replace hHeld:=hHeld (by decide)
     try simp only[Act.put,zz1,zz2,zz3,zz4,zz5,zz6]
     refine TkS 7 rfl hHeld ?_
     refine TkS 23 rfl hHeld ?_
     refine TkS 24 rfl hHeld ?_
     refine Wd ?_
     clear hHeld;go_wp2_with (with_reducible refine stop_store ?_)
     refine wpList_store_item rfl _ _ _ rfl rfl G (roundP s xk xw).cells rfl rfl _ _ hS size_w8 rfl (S8.one _) fun w9 hS9 hg9=>?_
     have hS10:Blk w9 G 116 (roundsP KK (schedP bs 64) h0 (k+1)).cells:=by
      rw[roundsP,HSE.out,HX.out.1,HX.out.2]
      exact hS9
     have hGs:w.heap.size<G:=HGS.out;have hW10:=hWx.drew.drew.drew.grown hg9 (by intro hc;injection hc;omega);have hb10:=hbx.drew.drew.drew.grown hg9 hbx.size (by rintro q ⟨⟩;omega);clear hS9 hg9 hS hWx c0 c1 c2 c3 c4 c5 c6 c7 ck cw hbx hGs;go_wp2_with fail
     go_roundw
     case rel=>exact⟨k+1,by go_num,by omega,hS10,hW10,hb10⟩
     case measure=>simp[intOf];omega
    ·obtain rfl:k=64:=by omega
     rw[show((64:Nat):Int)=64 from rfl]at hlt⊢;obtain⟨s,hs⟩:∃ s,roundsP KK (schedP bs 64) h0 64=s:=⟨_,rfl⟩
     rw[hs]at hS;have HSE:=Hh hs;have hh2:=hh.below hbx;have hGs:w.heap.size<G:=HGS.out;have hgh:hg<w.heap.size:=HGW.out.1;clear hs hlt hk64 hKb hWx;go_wp2_with fail
     go_loopw [180] (fun v180 wx=>∃ k:Nat,v180=.int .i64 (k:Int)∧k≤8∧Blk wx hg 116 (rowV (addP h0.list s.list k))∧Blk wx G 116 (rowV s.list)∧w.grownBy wx (some hg)) (fun v180 _=>(8-intOf v180).toNat)
     case atStart=>exact⟨0,rfl,by omega,hh2,hS,grown_of_below hbx _⟩
     case round =>
      clear hh2 hS hbx;obtain⟨k,rfl,hk8,hhx,hSx,hgx⟩:=hrel
      by_cases hlt:(k:Int)<8
      ·have ch:=hhx.drew.cell k (rowV_get _ _ (by rw[addP_len];simp[S8.list];omega));have cs:=hSx.drew.cell k (rowV_get _ _ (by simp[S8.list];omega));obtain⟨xh,hxh⟩:∃ x,getW (addP h0.list s.list k) k=x:=⟨_,rfl⟩
       obtain⟨xs,hxs⟩:∃ x,getW s.list k=x:=⟨_,rfl⟩
       rw[hxh]at ch;rw[hxs]at cs;have HX:=Hh (And.intro hxh hxs);clear hxh hxs;go_upto_region 21 with fail
       refine wp_region_ways 11 (fun wx=>wx.cell? ⟨hg,k,none⟩=some (.int .u32 xh)∧wx.cell? ⟨G,k,none⟩=some (.int .u32 xs)) (by kernel_rfl) (⟨ch,cs⟩) (fun hHeld=>?_)
       refine Tk 0 rfl hHeld ?_
       refine Tk 1 rfl hHeld ?_
       refine Tk 2 rfl hHeld ?_
       refine Tk 3 rfl hHeld ?_
       refine Tk 4 rfl hHeld ?_
       refine Tk 5 rfl hHeld ?_
       refine Tk 6 rfl hHeld ?_
       refine Tk 7 rfl hHeld ?_
       refine Tk 8 rfl hHeld ?_
       refine Tk 9 rfl hHeld ?_
       refine Tk 10 rfl hHeld ?_
       refine To 11 rfl fun K hK=>?_
       rw[if_pos (by rfl)]
       refine wp_store_cell _ _ _ rfl hg k (.int .u32 (IntKind.u32.wrap (xh+xs))) rfl rfl _ _ hhx.drew size_u32 (by rw[rowV_size,addP_len];simp[S8.list];omega) rfl fun w9 hh9 hg9=>?_
       refine Kz hK ?_
       clear hK K
       refine Wd ?_
       clear hHeld
       have hh10:Blk w9 hg 116 (rowV (addP h0.list s.list (k+1))):=by
        obtain⟨rfl,rfl⟩:=HX.out;rw[rowV_set]at hh9
        exact hh9
       have hS10:=hSx.drew.grown hg9 (by intro hc;injection hc;omega);have hg10:=grown_step (grown_drew hgx) hg9 (.inl rfl);clear hh9 hg9 ch cs hhx hSx hgx;go_wp2_with fail
       go_roundw
       case rel=>exact⟨k+1,by go_num,by omega,hh10,hS10,hg10⟩
       case measure=>simp[intOf];omega
      ·obtain rfl:k=8:=by omega
       rw[show((8:Nat):Int)=8 from rfl]at hlt⊢;have hE:rowV (addP h0.list s.list 8)=(blockP KK h0 bs).cells:=by rw[blockP,HSE.out];rfl
       rw[hE]at hhx;clear hE;go_wp2_with fail
       go_end0
       exact⟨⟨_,rfl⟩,hhx,hgx⟩
end Go.Proofs.YtgcjjhibdbafmaaGreatDoor
