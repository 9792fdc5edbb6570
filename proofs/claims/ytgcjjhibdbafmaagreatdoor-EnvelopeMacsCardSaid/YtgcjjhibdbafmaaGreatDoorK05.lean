/- squeezed. Walks: cbor.float. Walks: cbor.add -/
import Derived.Test.YtgcjjhibdbafmaaGreatDoorK04
import Derived.Shelf.Unicode.DecodeSlow
set_option linter.unusedVariables false
set_option linter.unusedSimpArgs false
set_option maxRecDepth 100000
set_option maxHeartbeats 6400000
namespace Go.Proofs.YtgcjjhibdbafmaaGreatDoor
open Go.RowKit
theorem conv_f32 (n:Nat) (hN:isNaN n=false) (w:World):∃ r w',(convert 154 156 (.float .f64 n)).run Tryz.prog w=.ok (.float .f32 r) w'∧(w'=w∨w'=w.drew)∧r<4294967296∧(∀ s x f v,Nar31 n v s x f→r=v):=by
 have hs:Tryz.prog.underlying 154=some (.float .f64):=Tryz.underlying154;have hd:Tryz.prog.underlying 156=some (.float .f32):=Tryz.underlying156
 cases hb:floatToFloatBits .f64 n .f32 with
 | some r =>
  have hs':(Tryz.prog.underlying 154).isSome=true:=by rw[hs];rfl
  refine⟨r,w,run_convert_float_float (P:=Tryz.prog) (w:=w) 154 156 .f64 .f32 n r hs' hd hb,.inl rfl, ?_, ?_⟩
  ·unfold floatToFloatBits at hb
   rw[if_neg (by decide)]at hb;have hlt:∀ d:Ieee.Datum,FloatKind.encode .f32 d<4294967296:=fun d=>Ieee.single.write_lt d
   split at hb
   ·cases hb
   ·injection hb with hb;rw[← hb];exact hlt _
   ·split at hb
    ·cases hb
    ·injection hb with hb;rw[← hb];exact hlt _
  ·intro s x f v h
   have:=slim_of h;rw[hb]at this;injection this
 | none =>
  have hbb:=hb
  unfold floatToFloatBits at hb
  rw[if_neg (by decide)]at hb
  have hnn:¬ (∃ a b,FloatKind.decode .f64 n=.nan a b):=by
   rintro⟨a,b,h⟩
   have:=read_nan n;rw[hN]at this;have h':Ieee.double.read n=.nan a b:=h;rw[h']at this
   cases this
  cases hq:FloatKind.decode .f64 n with
  | nan a b=>exact absurd ⟨a,b,hq⟩ hnn
  | infinity a=>rw[hq]at hb;cases hb
  | number a b c =>
   rw[hq]at hb
   simp only at hb
   split at hb
   ·rename_i ho
    refine⟨(Question.floatToFloat n).cut (w.tape w.drawn (Question.floatToFloat n)),w.drew, ?_,.inr rfl, ?_, ?_⟩
    ·simp[convert,run_underlying hs,run_underlying hd,Conv.floatToFloat,hq,ho,Question.forced]
    ·show _%2 ^ 32<4294967296
     omega
    ·intro s x f v h
     have:=slim_of h;rw[hbb]at this
     cases this
   ·cases hb
theorem conv_f64 (r n:Nat) (hN:isNaN n=false) (hr:r<4294967296) (w:World):∃ m w',(convert 156 154 (.float .f32 r)).run Tryz.prog w=.ok (.float .f64 m) w'∧(w'=w∨w'=w.drew)∧(m=n→narrow n 8 23=some r)∧(∀ s x f,Nar31 n r s x f→m=n):=by
 have hs:Tryz.prog.underlying 156=some (.float .f32):=Tryz.underlying156;have hd:Tryz.prog.underlying 154=some (.float .f64):=Tryz.underlying154
 cases hn:(Ieee.single.read r).isNaN with
 | false =>
  obtain⟨m,s,x,f,_,hx⟩:=single_fields hr hn;have hw:=wide_of hx;have hs':(Tryz.prog.underlying 156).isSome=true:=by rw[hs];rfl
  refine⟨m,w,run_convert_float_float (P:=Tryz.prog) (w:=w) 156 154 .f32 .f64 r m hs' hd hw,.inl rfl, ?_, ?_⟩
  ·rintro rfl
   exact narrow31_of hx
  ·intro s' x' f' h
   have:=wide_of h;rw[hw]at this;injection this
 | true =>
  cases hq:FloatKind.decode .f32 r with
  | number a b c =>
   have h':Ieee.single.read r=.number a b c:=hq;rw[h']at hn;cases hn
  | infinity a =>
   have h':Ieee.single.read r=.infinity a:=hq;rw[h']at hn;cases hn
  | nan a b =>
   refine⟨(Question.nanConv .f64 r).cut (w.tape w.drawn (Question.nanConv .f64 r)),w.drew, ?_,.inr rfl, ?_, ?_⟩
   ·simp[convert,run_underlying hs,run_underlying hd,Conv.floatToFloat,hq,Question.forced]
   ·intro h
    exfalso
    have hnan:isNaN ((Question.nanConv .f64 r).cut (w.tape w.drawn (Question.nanConv .f64 r)))=true:=by
     rw[isNaN_iff];show(_%2*2 ^ 63+0x7ff0000000000000+1+_/2%(2 ^ 52-1))/2 ^ 52%2048=2047∧_
     generalize w.tape w.drawn (Question.nanConv .f64 r)=t
     show(t%2*2 ^ 63+0x7ff0000000000000+1+t/2%(2 ^ 52-1))/2 ^ 52%2048=2047∧(t%2*2 ^ 63+0x7ff0000000000000+1+t/2%(2 ^ 52-1))%2 ^ 52≠0
     generalize t/2=u
     have:t%2=0∨t%2=1:=by omega
     rcases this with h | h <;> rw[h] <;> simp only[Nat.reducePow,Nat.reduceSub,Nat.reduceMul,Nat.reduceAdd,Nat.zero_add] <;> omega
    rw[h,hN]at hnan
    cases hnan
   ·intro s x f h
    have:=read_s h;have h':Ieee.single.read r=.nan a b:=hq;rw[h']at this
    split at this
    ·cases this
    ·split at this <;> cases this
theorem Fresh.step_ {w w1 w2:World}{l:List UInt8}{r:Value}(hb:Below w.heap.size w w1) (h:Fresh w1 l r w2):Fresh w l r w2:=⟨h.own.more hb.size,hb.trans (h.2.mono hb.size)⟩
theorem narrow15_none {n:Nat}(hn:n<18446744073709551616) (h:narrow n 8 23=none):narrow n 5 10=none:=by
 cases h5:narrow n 5 10 with
 | none=>rfl
 | some v =>
  obtain⟨s,x,f,a1,a2,a3,a4,a5⟩:=narrow15_spec hn h5
  have done:∀ {x' f':Nat},Nar31 n (s*2147483648+x'*8388608+f') s x' f'→False:=fun hx=>by
   rw[narrow31_of hx]at h
   cases h
  rcases a5 with ⟨c1,c2,c3⟩ | ⟨c1,c2,c3⟩ | ⟨c1,c2,c3⟩ | ⟨c1,t,full,c2,c3,c4,c5,c6,c7⟩
  ·exact(done (x':=255) (f':=0) ⟨a1,rfl,by omega,by omega,.inl ⟨rfl,rfl,c3⟩⟩).elim
  ·exact(done (x':=0) (f':=0) ⟨a1,rfl,by omega,by omega,.inr (.inl ⟨rfl,rfl,c3⟩)⟩).elim
  ·have C3:n=s*9223372036854775808+(x+112+896)*4503599627370496+f*8192*536870912:=by
    rw[c3,Nat.mul_assoc f 8192,Nat.add_assoc x 112]
   have C:=Hh C3;clear c3 C3;have g1:f*8192<8388608:=by omega
   have g2:x+112≤255:=by omega
   have g3:1≤x+112:=by omega
   have g4:x+112≤254:=by omega
   exact(done (x':=x+112) (f':=f*8192) ⟨a1,rfl,g1,g2,.inr (.inr (.inl ⟨g3,g4,C.out⟩))⟩).elim
  ·have C:=Hh c7;clear c7
   have e1:full=f*2 ^ (23-t)*536870912:=by
    rw[c5,Nat.mul_assoc,show(536870912:Nat)=2 ^ 29 from rfl,← Nat.pow_add,show 23-t+29=52-t by omega]
   have e2:2 ^ (t+1)*2 ^ (52-t)=9007199254740992:=by
    rw[← Nat.pow_add,show t+1+(52-t)=53 by omega]
   have b2:=Nat.mul_lt_mul_of_pos_right c4 (Nat.two_pow_pos (52-t));rw[e2,← c5]at b2;obtain⟨q,hq⟩:∃ q,f*2 ^ (23-t)=q:=⟨_,rfl⟩
   rw[hq]at e1;have g0:8388608≤q∧q<16777216:=by clear a2;omega
   have g5:full-4503599627370496=(q-8388608)*536870912:=by clear a2;omega
   have g1:q-8388608<8388608:=by omega
   have g2:103+t≤255:=by omega
   have g3:1≤103+t:=by omega
   have g4:103+t≤254:=by omega
   have C3:n=s*9223372036854775808+(103+t+896)*4503599627370496+(q-8388608)*536870912:=by
    rw[C.out,g5,show 103+t+896=999+t by omega]
   exact(done (x':=103+t) (f':=q-8388608) ⟨a1,rfl,g1,g2,.inr (.inr (.inl ⟨g3,g4,C3⟩))⟩).elim
theorem cbor_float_nat (n:Nat) (hn:n<18446744073709551616) (w:World) :
  Calls Tryz.prog 92 #[.int .u64 (n:Int)] w fun e w'=>∃ r,e=.returned r∧Fresh w (floatB n) r w':=by
 have r1:=run_f64frombits n;have r2:=order_fne n
 cases hN:isNaN n with
 | true =>
  rw[hN]at r2;have E:Hid (floatB n=[u8 249,u8 126,u8 0]):=by rw[Hid,floatB,if_pos hN]
  clear hN hn;go_enter Tryz.func92,Tryz.ntmps92
  go_wp2_with fail
  go_ret
  refine⟨_,rfl, ?_⟩
  rw[E.out]
  exact Fresh.lit w _ _ 3 rfl (by simp) rfl
 | false =>
  rw[hN]at r2;obtain⟨r,w1,hc1,hw1,hr,hv⟩:=conv_f32 n hN w;obtain⟨m,w2,hc2,hw2,hm1,hm2⟩:=conv_f64 r n hN hr w1
  have hb:Below w.heap.size w w2:=by
   rcases hw1 with rfl | rfl <;> rcases hw2 with rfl | rfl
   ·exact Below.refl _ _
   ·exact(Below.refl _ _).drew
   ·exact(Below.refl _ _).drew
   ·exact(Below.refl _ _).drew.drew
  have r3:=run_f64bits m;have r4:=run_f32bits r;have HNN:=Hh hN
  cases h2:narrow n 8 23 with
  | none =>
   have hne:m≠n:=fun h=>by rw[hm1 h]at h2;cases h2
   have b1:((m:Int) != (n:Int))=true:=by rw[bne_iff_ne];omega
   have p1:(m=n)=False:=eq_false hne;have E:Hid (floatB n=u8 251::be8 n 8):=by rw[Hid,floatB,if_neg (by simp[hN]),narrow15_none hn h2,h2]
   have WD:=Hh (fun w3:World=>cbor_wide n hn w3);have hO:=OwnB.lit w2 w.heap.size [u8 251] #[.int .u8 251] 1 rfl rfl hb.size (by simp);have hbz:=hb.alloc hb.size (.cells #[.int .u8 251] 5);clear hm1 hm2 hv hN hn h2 hne hw1 hw2 hr;go_enter Tryz.func92,Tryz.ntmps92
   go_wp2_with fail
   refine(WD.out _).mono ?_
   rintro e w3 ⟨rr,rfl,hf⟩
   obtain⟨RA,rc,rfl,_⟩:=hf.own.form;have hO3:=hO.below hf.2;have hb3:=hbz.trans (hf.2.mono hbz.size);go_wp2_with (at_builtin;refine stop_in ?_)
   refine wpList_app_bytes rfl (.tmp 21) (.tmp 23) rfl w.heap.size _ _ rfl hO3 RA _ rc (be8 n 8) rfl rfl hf.own.src (by simp[be8_length]) hb3.size fun v' w7 hO7 hg7 hat7=>?_
   have hb7:=hb3.grown hg7 hb3.size (fun q hq=>(hO3.lt q hq).1);clear hg7 hat7 hO3 hf;go_wp2_with fail
   go_ret
   exact⟨_,rfl,by rw[E.out];exact⟨hO7,hb7⟩⟩
  | some v =>
   obtain⟨s,x,f,hx⟩:=narrow31_spec hn h2;obtain rfl:=hv s x f v hx;obtain rfl:=hm2 s x f hx;have b1:((m:Int) != (m:Int))=false:=by simp
   have HF:=half_of hx;have HH:=Hh (fun w3:World=>cbor_half r hr w3)
   cases h5:narrow m 5 10 with
   | some q =>
    rw[h5]at HF;rw[HF]at HH;have E:Hid (floatB m=[u8 249,u8 (q/256),u8 q]):=by rw[Hid,floatB,if_neg (by simp[hN]),h5]
    clear hm1 hm2 hv hN hn h2 hw1 hw2 hr hx HF h5;go_enter Tryz.func92,Tryz.ntmps92
    go_wp2_with fail
    refine(HH.out _).mono ?_
    rintro e w' ⟨⟨hq,rfl,he⟩,rfl⟩
    obtain rfl:=he q rfl;clear he;go_wp2_with fail
    go_ret
    refine⟨_,rfl, ?_⟩
    rw[E.out]
    refine(Fresh.lit w2 _ _ 3 rfl (by simp) ?_).step_ hb
    simp only[List.map_cons,List.map_nil,byteV_u8]
    simp
   | none =>
    rw[h5]at HF;rw[HF]at HH;have E:Hid (floatB m=[u8 250,u8 (r/16777216),u8 (r/65536),u8 (r/256),u8 r]):=by rw[Hid,floatB,if_neg (by simp[hN]),h5,h2]
    clear hm1 hm2 hv hN hn h2 hw1 hw2 hr hx HF h5;go_enter Tryz.func92,Tryz.ntmps92
    go_wp2_with fail
    refine(HH.out _).mono ?_
    rintro e w' ⟨⟨hq,rfl,_⟩,rfl⟩
    go_wp2_with fail
    go_ret
    refine⟨_,rfl, ?_⟩
    rw[E.out]
    refine(Fresh.lit w2 _ _ 5 rfl (by simp) ?_).step_ hb
    simp only[List.map_cons,List.map_nil,byteV_u8]
    simp
theorem cbor_float (n:Int) (w:World) (h0:0≤n) (h1:n<18446744073709551616) :
  Calls Tryz.prog 92 #[.int .u64 n] w fun e w'=>∃ r,e=.returned r∧Fresh w (floatB n.toNat) r w':=by
 obtain⟨m,rfl⟩:=Int.eq_ofNat_of_zero_le h0;rw[Int.toNat_natCast]
 exact cbor_float_nat m (by omega) w
def U64 (n:Int):Prop:=0≤n∧n<18446744073709551616
def Adds (w:World) (base:Nat) (v:Value) (l:List UInt8) (e:Ending) (w':World):Prop :=
 ∃ r,e=.returned r∧OwnB w' base r l∧w.grownBy w' v.ownBlock∧At0 w v.ownBlock r.ownBlock
def AddSaid (x:Itm):Prop:=∀ (H:Snap) (k n:Int) (ba:Option Addr) (bl bc:Nat) (ia:Option Addr) (il ic:Nat) (w:World) (base:Nat) (v:Value) (l:List UInt8),
 Kinds x→ItemA H k n ba bl bc ia il ic x→Holds w H→OwnB w base v l→base≤w.heap.size→(∀ g,v.ownBlock=some g→H g=none)→l.length+(encB x).length≤1099511627776→
 Calls Tryz.prog 69 #[v,.agg #[.int .i64 k,.int .u64 n,.slice ba bl bc,.slice ia il ic]] w (Adds w base v (l++encB x))
theorem add_float (x:Itm) (h8:x.kind=8):AddSaid x:=by
 intro H k n ba bl bc ia il ic w base v l hk hx hH hown hbase hv hlen
 obtain⟨rfl,rfl,rfl,rfl,hx⟩:=hx;have hbd:=hx.bounds;have E:Hid (encB x=floatB x.n):=by rw[Hid,encB_eq,if_pos h8]
 rw[E.out]at hlen;have HL:=Hh hlen;have HB:=Hh hbd;have HV:=Hh hv;clear hlen hbd hv;go_enter Tryz.func69,Tryz.ntmps69
 go_wp2_with (first
  | (go_at_call 92;refine(cbor_float _ _ (by omega) (by have:=HB.out;omega)).mono ?_;rintro e w1 ⟨r,rfl,hf⟩;obtain⟨A,c,rfl,_,_,hsrc⟩:=hf.own.form)
  | (at_builtin;refine wpList_app_bytes rfl (.tmp 11) (.tmp 14) rfl base v l rfl ((hown.alloc _).below hf.2) A _ c (floatB x.n) rfl (by simp) (by simpa using hsrc) HL.out (by have:=hf.2.size;simp at this;omega) ?_;intro v' w2 hown' hg hat))
 go_ret
 refine⟨v',rfl,by rw[E.out];exact hown', ?_, ?_⟩
 ·exact grown_step (grown_of_below ((below_box w _).trans (hf.2.mono (by simp))) _) hg (.inl rfl)
 ·exact At0.step (.inl rfl) (by have:=hf.2.size;simp at this;omega) hat
theorem add_simple (x:Itm) (h7:x.kind=7) (h24:24≤x.n):AddSaid x:=by
 intro H k n ba bl bc ia il ic w base v l hk hx hH hown hbase hv hlen
 obtain⟨rfl,rfl,rfl,rfl,hx⟩:=hx;have hbd:=hx.bounds;have E:Hid (encB x=[u8 248,u8 x.n]):=by rw[Hid,encB_eq,if_neg (by omega),if_pos ⟨h7,h24⟩]
 rw[E.out]at hlen;have HL:=Hh hlen;have HB:=Hh hbd;have HV:=Hh hv;have h24':(24:Int)≤(x.n:Int):=by omega
 clear hlen hbd hv h24;go_enter Tryz.func69,Tryz.ntmps69
 go_wp2_with (at_builtin;refine wpList_app_bytes rfl (.tmp 25) (.tmp 29) rfl base v l rfl ((hown.alloc _).alloc _) _ 2 2 [u8 248,u8 x.n] rfl rfl ?hs HL.out (by simp;omega) ?_)
 case hs=>exact Src.new _ _ _ _ (by simp) _ (by simp[u8_toNat])
 intro v' w2 hown' hg hat
 go_wp2
 go_ret
 refine⟨v',rfl,by rw[E.out];exact hown', ?_, ?_⟩
 ·exact grown_step (grown_of_below ((below_box w _).alloc (by simp) _) _) hg (.inl rfl)
 ·exact At0.step (.inl rfl) (by simp;omega) hat
theorem cell_box {w:World}{g:Nat}{cs:Array Value}{e:TypeId}(h:w.heap[g]? = some (.cells cs e (0,0))) (i:Nat):w.cell? ⟨g,i,none⟩=cs[i]? :=cell_of_row w g i cs e (0,0) h
theorem more_box {w w1 w2 w3:World}{base:Nat}{v:Value}{l:List UInt8}{cs:Array Value}{e:TypeId}(hown:OwnB w base v l)
  (h1:Below (w.alloc (.cells cs e)).heap.size (w.alloc (.cells cs e)) w1) (h2:Below w1.heap.size w1 w2) (h3:w2.grownBy w3 v.ownBlock) :
  w3.heap[w.heap.size]? = some (.cells cs e (0,0))∧w.heap.size+1≤w3.heap.size:=by
 have s1:=h1.size;have s2:=h2.size;have s3:=h3.size
 simp at s1
 refine⟨?_,by omega⟩
 rw[h3.block _ (by omega) (fun h=>by have:=(hown.lt _ h.symm).2;omega),h2.block _ (by omega),h1.block _ (by simp)]
 exact heap_alloc_new w _
theorem add_more (x:Itm) (h8:¬ x.kind=8) (h7:¬ (x.kind=7∧24≤x.n)) (ih:∀ y:Itm,cnt y<cnt x→AddSaid y):AddSaid x:=by
 intro H k n ba bl bc ia il ic w base v l hk hx hH hown hbase hv hlen
 obtain⟨rfl,rfl,rfl,rfl,hx⟩:=hx;have hbd:=hx.bounds;have E:Hid (encB x=headB x.kind.toNat (numP x)++x.bytes++encL x.items):=by rw[Hid,encB_eq,if_neg h8,if_neg h7]
 rw[E.out]at hlen;have hkk:=hk.kind;have hx8:x.kind<8:=by omega
 have b8:(x.kind==8)=false:=by simp[h8]
 have hN0:(numP x:Int)<18446744073709551616:=by
  unfold numP
  repeat' split
  all_goals omega
 have HN:U64 (numP x):=⟨by omega,hN0⟩
 clear hN0;have hn24:x.kind=7→(x.n:Int)<24:=fun h=>by have:¬ 24≤x.n:=fun h'=>h7 ⟨h,h'⟩;omega
 have HL:=Hh hlen;have HB:=Hh hbd;have HV:=Hh hv;clear hlen hbd hv h8 h7
 have hkb:((x.kind==7)=true∧(x.n:Int)<24)∨(x.kind==7)=false:=by
  by_cases hk7:x.kind=7
  ·exact .inl ⟨by simp[hk7],hn24 hk7⟩
  ·exact .inr (by simp[hk7])
 clear hn24;have G:Hid (w.grownBy w none):=grown_refl w none
 rcases hkb with ⟨b7,hn⟩ | b7
 all_goals
  go_enter Tryz.func69,Tryz.ntmps69
  go_wp2_with fail
  refine(cbor_major hx.arg _ (by omega) (by omega)).mono ?_
  rintro e w1 ⟨rfl,hm⟩
  go_wp2_with fail
  refine(cbor_head _ _ _ (by omega) (by omega) (by omega) HN.2).mono ?_
  rintro e w2 ⟨r,rfl,hf⟩
  obtain⟨A,c,rfl,_,_,hsrc⟩:=hf.own.form;have hs1:w.heap.size+1≤w1.heap.size:=by have h1:=hm.size;simp at h1;omega
  have hs2:w.heap.size+1≤w2.heap.size:=by have h1:=hm.size;have h2:=hf.2.size;simp at h1;omega
  go_wp2_with (at_builtin;refine stop_in ?_)
  refine wpList_app_bytes rfl (.tmp 31) (.tmp 36) rfl base v l rfl (((hown.alloc _).below hm).below hf.2) A _ c (headB x.kind.toNat (numP x)) rfl (by simp) (by simpa using hsrc) (by have:=HL.out;simp at this⊢;omega) (by omega) ?_
  intro v3 w3 hown3 hg3 hat3
  obtain⟨hbx3,hs3⟩:=more_box hown hm hf.2 hg3;have hc2:=cell_box hbx3 2;have hc3:=cell_box hbx3 3
  simp at hc2 hc3
  have hH3:Holds w3 H:=(((hH.alloc _).below hm (Nat.le_refl _)).below hf.2 (Nat.le_refl _)).grown hg3 HV.out;have hsrc5:=Src.of_row hx.bytes.row hH3;have hG3:w.grownBy w3 v.ownBlock:=grown_step (grown_of_below (((below_box w _).trans (hm.mono (by simp))).trans (hf.2.mono (by omega))) _) hg3 (.inl rfl);go_wp2_with (at_builtin;refine stop_in ?_)
  refine wpList_app_bytes rfl (.tmp 38) (.tmp 40) rfl base v3 _ rfl hown3 ba _ bc x.bytes rfl rfl hsrc5 (by have:=HL.out;simp at this⊢;omega) (by omega) ?_
  intro v4 w4 hown4 hg4 hat4
  have hH4:Holds w4 H:=hH3.grown hg4 (fun g hg=>by
   rcases hat3 with h | ⟨g',h,hg'⟩
   ·exact HV.out g (h ▸ hg)
   ·rw[h]at hg;injection hg with hg;subst hg;exact hH.none_of_ge (by omega))
  have hat34:At0 w v.ownBlock v3.ownBlock:=At0.step (.inl rfl) (by omega) hat3;have hG4:w.grownBy w4 v.ownBlock:=grown_step hG3 hg4 hat34
  have hbx4:w4.heap[w.heap.size]? = some (.cells #[.int .i64 x.kind,.int .u64 x.n,.slice ba x.bytes.length bc,.slice ia x.items.length ic] 26 (0,0)) :=
   (hg4.block _ (by omega) (fun h=>by
    rcases hat34 with h' | ⟨g',h',hg'⟩
    ·rw[h']at h;have:=(hown.lt _ h.symm).2;omega
    ·rw[h']at h;injection h with h;subst h
     rcases hat3 with h3 | ⟨g3,h3,hg3'⟩
     ·rw[h3]at h';have:=(hown.lt _ h').2;omega
     ·rw[h']at h3;injection h3 with h3;omega)).trans hbx3
  have hc43:=cell_box hbx4 3
  simp at hc43
  have hat44:At0 w v.ownBlock v4.ownBlock:=At0.step hat34 (by omega) hat4;clear hc2 hc3 hbx3 hbx4;go_wp2_with (at_builtin;refine stop_in ?_)
  have hil:x.items.length≤9223372036854775807:=by have:=HB.out;omega
  go_loopw [0,45] (fun v' i wr=>∃ k:Nat,k≤x.items.length∧i=.int .i64 k∧OwnB wr base v' (l++headB x.kind.toNat (numP x)++x.bytes++encL (x.items.take k))∧
    w.grownBy wr v.ownBlock∧At0 w v.ownBlock v'.ownBlock) (fun _ i _=>x.items.length-(intOf i).toNat)
  case atStart=>exact⟨0,Nat.zero_le _,rfl,by simpa [encL] using hown4,hG4,hat44⟩
  case round =>
   obtain⟨k,hkl,rfl,hown5,hG5,hat5⟩:=hrel
   by_cases hlt:k<x.items.length
   ·have hH5:Holds wr H:=hH.grown hG5 HV.out;obtain⟨ib,io,hia,hel⟩:=hx.items (by omega);obtain⟨eba,ebc,eia,eic,q0,q1,q2,q3,hex⟩:=hel.get k hlt;subst hia;have p0:=hH5.cell q0;have p1:=hH5.cell q1;have p2:=hH5.cell q2;have p3:=hH5.cell q3;have hfin:=encL_take_succ x.items k hlt;have hle:=encL_take_le x.items (k+1)
    have hrow:∀ g,u0.ownBlock=some g→H g=none:=fun g hg=>by
     rcases hat5 with h | ⟨g',h,hg'⟩
     ·exact HV.out g (h ▸ hg)
     ·rw[h]at hg;injection hg with hg;subst hg;exact hH.none_of_ge hg'
    have hs5:=hG5.size
    have hlen5:(l++headB x.kind.toNat (numP x)++x.bytes++encL (x.items.take k)).length+(encB x.items[k]).length≤1099511627776:=by
     have h1:=HL.out;rw[hfin]at hle
     simp only[List.length_append]at h1 hle⊢
     omega
    have IHC:=ih x.items[k] (cnt_items x k hlt) H _ _ eba _ ebc eia _ eic (wr.alloc (.cells #[.int .i64 x.items[k].kind,.int .u64 x.items[k].n,.slice eba x.items[k].bytes.length ebc,.slice eia x.items[k].items.length eic] 26)) base u0 _
     (hk.items.get k hlt) hex.arg (hH5.alloc _) (hown5.alloc _) (by simp;omega) hrow hlen5
    have IHH:=Hh IHC;have HF:=Hh hfin;clear hfin hle hlen5 hrow q0 q1 q2 q3 IHC;go_wp2_with fail
    refine IHH.out.mono ?_
    rintro e w6 ⟨r6,rfl,hown6,hg6,hat6⟩
    have R:OwnB w6 base r6 (l++headB x.kind.toNat (numP x)++x.bytes++encL (x.items.take (k+1)))∧w.grownBy w6 v.ownBlock∧At0 w v.ownBlock r6.ownBlock:=by
     refine⟨by rw[HF.out];simpa using hown6,grown_step (grown_alloc hG5 _) hg6 hat5,At0.step hat5 (by simp;omega) hat6⟩
    clear hown6 hg6 hat6 hown5 hG5 hat5 IHH HF p0 p1 p2 p3;go_wp2_with fail
    go_roundw
    case rel=>exact⟨k+1,by omega,by go_num,R.1,R.2.1,R.2.2⟩
    case measure=>simp[intOf];omega
   ·have hkk:k=x.items.length:=by omega
    subst hkk;rw[List.take_length]at hown5;go_wp2_with fail
    go_ret
    exact⟨_,rfl,by rw[E.out];simpa using hown5,hG5,hat5⟩
theorem cbor_add (x:Itm):AddSaid x:=by
 have main:∀ N,∀ x:Itm,cnt x≤N→AddSaid x:=by
  intro N
  induction N with
  | zero =>
   intro x hx
   have:0<cnt x:=by cases x;rw[cnt];omega
   omega
  | succ N ih =>
   intro x hx
   by_cases h8:x.kind=8
   ·exact add_float x h8
   ·by_cases h7:x.kind=7∧24≤x.n
    ·exact add_simple x h7.1 h7.2
    ·exact add_more x h8 h7 fun y hy=>ih y (by omega)
 exact main _ x (Nat.le_refl _)
theorem nn_eq (n:Nat):((n:Int)==9221120237041090560)=(n==9221120237041090560):=by rw[Bool.eq_iff_iff,beq_iff_eq,beq_iff_eq];omega
theorem len0 {α:Type}(l:List α):((l.length:Int)==0)=l.isEmpty:=by cases l <;> simp <;> omega
theorem tup2 {a b c d:Bool}(h:a=b) (k:c=d):Ending.returned (.tuple #[.bool a,.bool c])=Ending.returned (.tuple #[.bool b,.bool d]):=by rw[h,k]
theorem plain_a {H:Snap}{x:Itm}{ba:Option Addr}{bc:Nat}{ia:Option Addr}{ic:Nat}(hx:IsItem H ba bc ia ic x) (w:World) (hk:x.kind=0∨x.kind=1∨x.kind=2∨x.kind=7):
  Calls Tryz.prog 97 #[itemV x ba bc ia ic] w fun e w'=>e=.returned (.tuple #[.bool (okPlain x),.bool (isPlain x)])∧Below w.heap.size w w':=by
 obtain⟨_,_,hn,hb1,hb2,hi1,hi2⟩:=hx.bounds;have hb:x.bytes.length≤9223372036854775807:=by omega
 have hi:x.items.length≤9223372036854775807:=by omega
 have HN:=Hh hn;clear hb1 hb2 hi1 hi2 hx hn
 rcases hk with hk | hk | hk | hk
 all_goals
  have E:Hid (okPlain x=okPlain x∧isPlain x=true):=⟨rfl,by simp[isPlain,hk]⟩
  go_enter Tryz.func97,Tryz.ntmps97
  go_wp2
  all_goals go_ret2
 all_goals refine⟨tup2 ?_ E.out.2.symm, ?_⟩
 all_goals first | exact below_box w _ | exact(below_box w _).drew | skip
 all_goals (simp[okPlain,len0, *];try (rw[Bool.eq_iff_iff];simp;omega);skip)
 all_goals omega
theorem plain_t {H:Snap}(hT:Tabs H) {x:Itm}{ba:Option Addr}{bc:Nat}{ia:Option Addr}{ic:Nat}(hx:IsItem H ba bc ia ic x) (w:World) (hH:Holds w H) (hk:x.kind=3):
  Calls Tryz.prog 97 #[itemV x ba bc ia ic] w fun e w'=>e=.returned (.tuple #[.bool (okPlain x),.bool (isPlain x)])∧Below w.heap.size w w':=by
 obtain⟨_,_,hn,hb1,hb2,hi1,hi2⟩:=hx.bounds;have hb:x.bytes.length≤9223372036854775807:=by omega
 have hi:x.items.length≤9223372036854775807:=by omega
 have HN:=Hh hn;have hby:=hx.bytes;clear hb1 hb2 hi1 hi2 hx hn;have E:Hid (isPlain x=true):=by simp[Hid,isPlain,hk]
 go_enter Tryz.func97,Tryz.ntmps97
 go_wp2_with (go_at_call 109;refine(utf8_Valid hT _ (hH.alloc _) ba _ _ bc rfl hby).mono ?_;rintro e w1 ⟨rfl,hb1⟩)
 all_goals go_ret2
 all_goals refine⟨tup2 ?_ E.out.symm, ?_⟩
 all_goals first | exact(below_box w _).trans (hb1.mono (by simp)) | exact below_box w _ | exact(below_box w _).drew | skip
 all_goals (simp[okPlain, *])
theorem plain_f {H:Snap}{x:Itm}{ba:Option Addr}{bc:Nat}{ia:Option Addr}{ic:Nat}(hx:IsItem H ba bc ia ic x) (w:World) (hk:x.kind=8) :
  Calls Tryz.prog 97 #[itemV x ba bc ia ic] w fun e w'=>e=.returned (.tuple #[.bool (okPlain x),.bool (isPlain x)])∧Below w.heap.size w w':=by
 obtain⟨_,_,hn,hb1,hb2,hi1,hi2⟩:=hx.bounds;have hb:x.bytes.length≤9223372036854775807:=by omega
 have hi:x.items.length≤9223372036854775807:=by omega
 have HN:=Hh hn;clear hb1 hb2 hi1 hi2 hx hn;have E:Hid (isPlain x=true):=by simp[Hid,isPlain,hk]
 go_enter Tryz.func97,Tryz.ntmps97
 have r1:=run_f64frombits x.n;have r2:=order_feq x.n;go_wp2
 all_goals go_ret2
 all_goals refine⟨tup2 ?_ E.out.symm, ?_⟩
 all_goals first | exact below_box w _ | exact(below_box w _).drew | skip
 all_goals simp[okPlain,notNumber,nn_eq, *]
theorem plain_o {x:Itm}{ba:Option Addr}{bc:Nat}{ia:Option Addr}{ic:Nat}(w:World) (hk:isPlain x=false) :
  Calls Tryz.prog 97 #[itemV x ba bc ia ic] w fun e w'=>e=.returned (.tuple #[.bool (okPlain x),.bool (isPlain x)])∧Below w.heap.size w w':=by
 have h:(x.kind==0)=false∧(x.kind==1)=false∧(x.kind==2)=false∧(x.kind==3)=false∧(x.kind==7)=false∧(x.kind==8)=false:=by
  simp only[isPlain,Bool.or_eq_false_iff]at hk
  simp only[hk,and_self]
 obtain⟨h0,h1,h2,h3,h7,h8⟩:=h
 have E:Hid (isPlain x=false∧okPlain x=false):=⟨hk,by
  simp only[beq_eq_false_iff_ne,ne_eq]at h0 h1 h2 h3 h7 h8
  simp[okPlain, *]⟩
 clear hk;go_enter Tryz.func97,Tryz.ntmps97
 go_wp2
 go_ret2
 exact⟨tup2 E.out.2.symm E.out.1.symm,below_box w _⟩
theorem cbor_plain {H:Snap}(hT:Tabs H) {k n:Int}{ba:Option Addr}{bl bc:Nat}{ia:Option Addr}{il ic:Nat}{x:Itm}(hx:ItemA H k n ba bl bc ia il ic x) (w:World) (hH:Holds w H) :
  Calls Tryz.prog 97 #[.agg #[.int .i64 k,.int .u64 n,.slice ba bl bc,.slice ia il ic]] w fun e w'=>e=.returned (.tuple #[.bool (okPlain x),.bool (isPlain x)])∧Below w.heap.size w w':=by
 obtain⟨rfl,rfl,rfl,rfl,hx⟩:=hx
 by_cases h3:x.kind=3
 ·exact plain_t hT hx w hH h3
 by_cases h8:x.kind=8
 ·exact plain_f hx w h8
 by_cases ha:x.kind=0∨x.kind=1∨x.kind=2∨x.kind=7
 ·exact plain_a hx w ha
 ·exact plain_o w (by simp[isPlain];omega)
def leftI:Option Nat→Int
 | none => -1
 | some r=>r
def LeftSaid (x:Itm):Prop:=∀ (H:Snap),Tabs H→∀ (k n:Int) (ba:Option Addr) (bl bc:Nat) (ia:Option Addr) (il ic:Nat) (w:World) (c d:Nat),
 ItemA H k n ba bl bc ia il ic x→Holds w H→c≤65536→d≤65536→
 Calls Tryz.prog 86 #[.agg #[.int .i64 k,.int .u64 n,.slice ba bl bc,.slice ia il ic],.int .i64 c,.int .i64 d] w fun e w'=>e=.returned (.int .i64 (leftI (leftP x c d)))∧Below w.heap.size w w'
theorem left_zero (x:Itm) {H:Snap}{ba:Option Addr}{bc:Nat}{ia:Option Addr}{ic:Nat}(w:World) (d:Nat) :
  Calls Tryz.prog 86 #[itemV x ba bc ia ic,.int .i64 0,.int .i64 d] w fun e w'=>e=.returned (.int .i64 (leftI (leftP x 0 d)))∧Below w.heap.size w w':=by
 have E:Hid (leftP x 0 d=none):=by rw[Hid,leftP_eq,if_pos (by omega)]
 go_enter Tryz.func86,Tryz.ntmps86
 go_wp2_with fail
 go_ret
 exact⟨by rw[E.out];rfl,below_box w _⟩
theorem left_none {x:Itm}{c d:Nat}(h:nodeR x d (c-1)=false):leftP x c d=none:=by
 rw[leftP_eq]
 by_cases h1:c<1
 ·rw[if_pos h1]
 ·rw[if_neg h1,if_pos h]
theorem nodeR_01 {x:Itm}{d m:Nat}(hk:x.kind=0∨x.kind=1):nodeR x d m=true↔x.bytes.length=0∧x.items.length=0:=by
 have hp:=(isPlain_iff x).2 (by omega)
 unfold nodeR nodeOk okPlain
 rw[if_pos hp,if_pos hk]
 simp only[Bool.and_eq_true,List.isEmpty_iff,decide_eq_true_eq,List.length_eq_zero_iff]
 constructor
 ·rintro⟨⟨⟨a,b⟩,_⟩,_⟩;exact⟨a,b⟩
 ·rintro⟨a,b⟩;exact⟨⟨⟨a,b⟩,by rw[a];simp⟩,by rw[b];simp⟩
theorem nodeR_2 {x:Itm}{d m:Nat}(hk:x.kind=2):nodeR x d m=true↔x.n=0∧x.items.length=0∧x.bytes.length≤4096:=by
 have hp:=(isPlain_iff x).2 (by omega)
 unfold nodeR nodeOk okPlain
 rw[if_pos hp,if_neg (by omega),if_pos hk]
 simp only[Bool.and_eq_true,List.isEmpty_iff,decide_eq_true_eq,List.length_eq_zero_iff,beq_iff_eq]
 constructor
 ·rintro⟨⟨⟨a,b⟩,c⟩,_⟩;exact⟨a,b,c⟩
 ·rintro⟨a,b,c⟩;exact⟨⟨⟨a,b⟩,c⟩,by rw[b];simp⟩
theorem nodeR_3 {x:Itm}{d m:Nat}(hk:x.kind=3):nodeR x d m=true↔x.n=0∧x.items.length=0∧x.bytes.length≤4096∧Lib.validD x.bytes=true:=by
 have hp:=(isPlain_iff x).2 (by omega)
 unfold nodeR nodeOk okPlain
 rw[if_pos hp,if_neg (by omega),if_neg (by omega),if_pos hk]
 simp only[Bool.and_eq_true,List.isEmpty_iff,decide_eq_true_eq,List.length_eq_zero_iff,beq_iff_eq]
 constructor
 ·rintro⟨⟨⟨⟨a,b⟩,v⟩,c⟩,_⟩;exact⟨a,b,c,v⟩
 ·rintro⟨a,b,c,v⟩;exact⟨⟨⟨⟨a,b⟩,v⟩,c⟩,by rw[b];simp⟩
theorem nodeR_7 {x:Itm}{d m:Nat}(hk:x.kind=7):nodeR x d m=true↔x.bytes.length=0∧x.items.length=0∧(x.n<24∨(32≤x.n∧x.n<256)):=by
 have hp:=(isPlain_iff x).2 (by omega)
 unfold nodeR nodeOk okPlain
 rw[if_pos hp,if_neg (by omega),if_neg (by omega),if_neg (by omega),if_pos hk]
 simp only[Bool.and_eq_true,Bool.or_eq_true,List.isEmpty_iff,decide_eq_true_eq,List.length_eq_zero_iff,beq_iff_eq]
 constructor
 ·rintro⟨⟨⟨⟨a,b⟩,v⟩,_⟩,_⟩;exact⟨a,b,v⟩
 ·rintro⟨a,b,v⟩;exact⟨⟨⟨⟨a,b⟩,v⟩,by rw[a];simp⟩,by rw[b];simp⟩
theorem nodeR_8 {x:Itm}{d m:Nat}(hk:x.kind=8):nodeR x d m=true↔x.bytes.length=0∧x.items.length=0∧(isNaN x.n=false∨x.n=notNumber):=by
 have hp:=(isPlain_iff x).2 (by omega)
 unfold nodeR nodeOk okPlain
 rw[if_pos hp,if_neg (by omega),if_neg (by omega),if_neg (by omega),if_neg (by omega),if_pos hk]
 simp only[Bool.and_eq_true,Bool.or_eq_true,List.isEmpty_iff,decide_eq_true_eq,List.length_eq_zero_iff,beq_iff_eq,Bool.not_eq_true']
 constructor
 ·rintro⟨⟨⟨⟨a,b⟩,v⟩,_⟩,_⟩;exact⟨a,b,v⟩
 ·rintro⟨a,b,v⟩;exact⟨⟨⟨⟨a,b⟩,v⟩,by rw[a];simp⟩,by rw[b];simp⟩
theorem nodeR_456 {x:Itm}{d m:Nat}(hk:4≤x.kind∧x.kind≤6):nodeR x d m=true↔d<8∧x.bytes.length=0∧(x.kind=6→x.items.length=1)∧(x.kind≠6→x.n=0)∧(x.kind=5→x.items.length%2=0)∧x.items.length≤m:=by
 have hp:¬ isPlain x=true:=by rw[isPlain_iff];omega
 unfold nodeR nodeOk frameOk
 rw[if_neg hp]
 simp only[Bool.and_eq_true,decide_eq_true_eq]
 constructor
 ·rintro⟨⟨⟨_,_,a,b,c,d,e⟩,_⟩,f⟩;exact⟨a,b,c,d,e,f⟩
 ·rintro⟨a,b,c,d,e,f⟩;exact⟨⟨⟨hk.1,hk.2,a,b,c,d,e⟩,by omega⟩,f⟩
theorem nodeR_out {x:Itm}{d m:Nat}(hk:x.kind<0∨8<x.kind):nodeR x d m=false:=by
 cases h:nodeR x d m with
 | false=>rfl
 | true =>
  have:=nodeOk_kind (nodeR_spec h).1
  omega
theorem left_flat {x:Itm}{c d:Nat}(hc:0<c) (h:nodeR x d (c-1)=true) (h0:x.items.length=0):leftP x c d=some (c-1):=by
 rw[List.length_eq_zero_iff]at h0;rw[leftP_eq,if_neg (by omega),if_neg (by simp[h]),h0,leftL]
 simp only
 rw[if_neg (by rintro⟨_,h⟩;cases h)]
theorem left_k0 (x:Itm) (hk:x.kind=0) {H:Snap}(hT:Tabs H) (ih:∀ y:Itm,cnt y<cnt x→LeftSaid y) {ba:Option Addr}{bc:Nat}{ia:Option Addr}{ic:Nat}(hx:IsItem H ba bc ia ic x) (w:World) (hH:Holds w H) (c d:Nat) (hc0:0<c) (hc:c≤65536) (hd:d≤65536) :
  Calls Tryz.prog 86 #[itemV x ba bc ia ic,.int .i64 c,.int .i64 d] w fun e w'=>e=.returned (.int .i64 (leftI (leftP x c d)))∧Below w.heap.size w w':=by
 have HX:=Hh hx;have hbd:=hx.bounds;have hB:=Blk.new w 26 #[.int .i64 x.kind,.int .u64 x.n,.slice ba x.bytes.length bc,.slice ia x.items.length ic];have hb0:=below_box w (itemO x ba bc ia ic);have hc1:((c-1:Nat):Int)=(c:Int)-1:=by omega
 have hbl:x.bytes.length≤9223372036854775807:=by omega
 have hil:x.items.length≤9223372036854775807:=by omega
 have HN:=Hh hbd.2.2.1;have hci:¬ (c:Int)<1:=by omega
 have k0:¬ x.kind<0:=by omega
 have k8:¬ 8<x.kind:=by omega
 have HK:=Hh hk;have HC1:=Hh hc1;clear hx hbd hc1;obtain⟨b0,b1,b2,b3,b4,b5,b6,b7,b8⟩:=kinds0 hk;clear hk
 by_cases hn0:x.n=0
 ·have bn00:((x.n:Int) != 0)=false:=by simp[hn0]
  have bn01:(x.n=0)=True:=by first | exact eq_true hn0 | exact eq_false hn0
  have HN0:=Hh hn0;clear hn0;go_enter Tryz.func86,Tryz.ntmps86
  go_upto_region 22 with fail
  any_goals
   (have hbad:nodeR x d (c-1)=false:=by
     cases hq:nodeR x d (c-1) with
     | false=>rfl
     | true=>exact absurd ((nodeR_01 (.inl HK.out)).1 hq) (by have hn0:=HN0.out;omega)
    go_ret
    exact⟨by rw[left_none hbad];rfl,hb0⟩)
  all_goals
   have hgood:nodeR x d (c-1)=true:=(nodeR_01 (.inl HK.out)).2 ⟨by omega,by omega⟩;have hi0:x.items.length=0:=by have hn0:=HN0.out;omega
   have hk:=HK.out;have E:Hid (leftP x c d=some (c-1)):=left_flat hc0 hgood hi0;have hli:¬ (0:Int)<x.items.length:=by omega
   have hl2:¬ (2:Int)<x.items.length:=by omega
   have HI:=Hh hi0;have HC:=Hh hgood;clear hi0 hk hgood;have c0:=hB.cell 0 rfl;have c3:=hB.cell 3 rfl;go_wp2_with fail
   refine wp_loop_rounds 1 ?_
   rw[rounds_succ];go_wp2_with fail
   refine wp_loop_rounds 1 ?_
   rw[rounds_succ];go_wp2_with fail
   go_ret
   exact⟨by rw[E.out,← HC1.out];rfl,hb0⟩
 ·have bn00:((x.n:Int) != 0)=true:=by simp[hn0]
  have bn01:(x.n=0)=False:=by first | exact eq_true hn0 | exact eq_false hn0
  have HN0:=Hh hn0;clear hn0;go_enter Tryz.func86,Tryz.ntmps86
  go_upto_region 22 with fail
  any_goals
   (have hbad:nodeR x d (c-1)=false:=by
     cases hq:nodeR x d (c-1) with
     | false=>rfl
     | true=>exact absurd ((nodeR_01 (.inl HK.out)).1 hq) (by have hn0:=HN0.out;omega)
    go_ret
    exact⟨by rw[left_none hbad];rfl,hb0⟩)
  all_goals
   have hgood:nodeR x d (c-1)=true:=(nodeR_01 (.inl HK.out)).2 ⟨by omega,by omega⟩;have hi0:x.items.length=0:=by have hn0:=HN0.out;omega
   have hk:=HK.out;have E:Hid (leftP x c d=some (c-1)):=left_flat hc0 hgood hi0;have hli:¬ (0:Int)<x.items.length:=by omega
   have hl2:¬ (2:Int)<x.items.length:=by omega
   have HI:=Hh hi0;have HC:=Hh hgood;clear hi0 hk hgood;have c0:=hB.cell 0 rfl;have c3:=hB.cell 3 rfl;go_wp2_with fail
   refine wp_loop_rounds 1 ?_
   rw[rounds_succ];go_wp2_with fail
   refine wp_loop_rounds 1 ?_
   rw[rounds_succ];go_wp2_with fail
   go_ret
   exact⟨by rw[E.out,← HC1.out];rfl,hb0⟩
theorem left_k1 (x:Itm) (hk:x.kind=1) {H:Snap}(hT:Tabs H) (ih:∀ y:Itm,cnt y<cnt x→LeftSaid y) {ba:Option Addr}{bc:Nat}{ia:Option Addr}{ic:Nat}(hx:IsItem H ba bc ia ic x) (w:World) (hH:Holds w H) (c d:Nat) (hc0:0<c) (hc:c≤65536) (hd:d≤65536) :
  Calls Tryz.prog 86 #[itemV x ba bc ia ic,.int .i64 c,.int .i64 d] w fun e w'=>e=.returned (.int .i64 (leftI (leftP x c d)))∧Below w.heap.size w w':=by
 have HX:=Hh hx;have hbd:=hx.bounds;have hB:=Blk.new w 26 #[.int .i64 x.kind,.int .u64 x.n,.slice ba x.bytes.length bc,.slice ia x.items.length ic];have hb0:=below_box w (itemO x ba bc ia ic);have hc1:((c-1:Nat):Int)=(c:Int)-1:=by omega
 have hbl:x.bytes.length≤9223372036854775807:=by omega
 have hil:x.items.length≤9223372036854775807:=by omega
 have HN:=Hh hbd.2.2.1;have hci:¬ (c:Int)<1:=by omega
 have k0:¬ x.kind<0:=by omega
 have k8:¬ 8<x.kind:=by omega
 have HK:=Hh hk;have HC1:=Hh hc1;clear hx hbd hc1;obtain⟨b0,b1,b2,b3,b4,b5,b6,b7,b8⟩:=kinds1 hk;clear hk
 by_cases hn0:x.n=0
 ·have bn00:((x.n:Int) != 0)=false:=by simp[hn0]
  have bn01:(x.n=0)=True:=by first | exact eq_true hn0 | exact eq_false hn0
  have HN0:=Hh hn0;clear hn0;go_enter Tryz.func86,Tryz.ntmps86
  go_upto_region 22 with fail
  any_goals
   (have hbad:nodeR x d (c-1)=false:=by
     cases hq:nodeR x d (c-1) with
     | false=>rfl
     | true=>exact absurd ((nodeR_01 (.inr HK.out)).1 hq) (by have hn0:=HN0.out;omega)
    go_ret
    exact⟨by rw[left_none hbad];rfl,hb0⟩)
  all_goals
   have hgood:nodeR x d (c-1)=true:=(nodeR_01 (.inr HK.out)).2 ⟨by omega,by omega⟩;have hi0:x.items.length=0:=by have hn0:=HN0.out;omega
   have hk:=HK.out;have E:Hid (leftP x c d=some (c-1)):=left_flat hc0 hgood hi0;have hli:¬ (0:Int)<x.items.length:=by omega
   have hl2:¬ (2:Int)<x.items.length:=by omega
   have HI:=Hh hi0;have HC:=Hh hgood;clear hi0 hk hgood;have c0:=hB.cell 0 rfl;have c3:=hB.cell 3 rfl;go_wp2_with fail
   refine wp_loop_rounds 1 ?_
   rw[rounds_succ];go_wp2_with fail
   refine wp_loop_rounds 1 ?_
   rw[rounds_succ];go_wp2_with fail
   go_ret
   exact⟨by rw[E.out,← HC1.out];rfl,hb0⟩
 ·have bn00:((x.n:Int) != 0)=true:=by simp[hn0]
  have bn01:(x.n=0)=False:=by first | exact eq_true hn0 | exact eq_false hn0
  have HN0:=Hh hn0;clear hn0;go_enter Tryz.func86,Tryz.ntmps86
  go_upto_region 22 with fail
  any_goals
   (have hbad:nodeR x d (c-1)=false:=by
     cases hq:nodeR x d (c-1) with
     | false=>rfl
     | true=>exact absurd ((nodeR_01 (.inr HK.out)).1 hq) (by have hn0:=HN0.out;omega)
    go_ret
    exact⟨by rw[left_none hbad];rfl,hb0⟩)
  all_goals
   have hgood:nodeR x d (c-1)=true:=(nodeR_01 (.inr HK.out)).2 ⟨by omega,by omega⟩;have hi0:x.items.length=0:=by have hn0:=HN0.out;omega
   have hk:=HK.out;have E:Hid (leftP x c d=some (c-1)):=left_flat hc0 hgood hi0;have hli:¬ (0:Int)<x.items.length:=by omega
   have hl2:¬ (2:Int)<x.items.length:=by omega
   have HI:=Hh hi0;have HC:=Hh hgood;clear hi0 hk hgood;have c0:=hB.cell 0 rfl;have c3:=hB.cell 3 rfl;go_wp2_with fail
   refine wp_loop_rounds 1 ?_
   rw[rounds_succ];go_wp2_with fail
   refine wp_loop_rounds 1 ?_
   rw[rounds_succ];go_wp2_with fail
   go_ret
   exact⟨by rw[E.out,← HC1.out];rfl,hb0⟩
theorem left_k2 (x:Itm) (hk:x.kind=2) {H:Snap}(hT:Tabs H) (ih:∀ y:Itm,cnt y<cnt x→LeftSaid y) {ba:Option Addr}{bc:Nat}{ia:Option Addr}{ic:Nat}(hx:IsItem H ba bc ia ic x) (w:World) (hH:Holds w H) (c d:Nat) (hc0:0<c) (hc:c≤65536) (hd:d≤65536) :
  Calls Tryz.prog 86 #[itemV x ba bc ia ic,.int .i64 c,.int .i64 d] w fun e w'=>e=.returned (.int .i64 (leftI (leftP x c d)))∧Below w.heap.size w w':=by
 have HX:=Hh hx;have hbd:=hx.bounds;have hB:=Blk.new w 26 #[.int .i64 x.kind,.int .u64 x.n,.slice ba x.bytes.length bc,.slice ia x.items.length ic];have hb0:=below_box w (itemO x ba bc ia ic);have hc1:((c-1:Nat):Int)=(c:Int)-1:=by omega
 have hbl:x.bytes.length≤9223372036854775807:=by omega
 have hil:x.items.length≤9223372036854775807:=by omega
 have HN:=Hh hbd.2.2.1;have hci:¬ (c:Int)<1:=by omega
 have k0:¬ x.kind<0:=by omega
 have k8:¬ 8<x.kind:=by omega
 have HK:=Hh hk;have HC1:=Hh hc1;clear hx hbd hc1;obtain⟨b0,b1,b2,b3,b4,b5,b6,b7,b8⟩:=kinds2 hk;clear hk
 by_cases hn0:x.n=0
 ·have bn00:((x.n:Int) != 0)=false:=by simp[hn0]
  have bn01:(x.n=0)=True:=by first | exact eq_true hn0 | exact eq_false hn0
  have HN0:=Hh hn0;clear hn0;go_enter Tryz.func86,Tryz.ntmps86
  go_upto_region 22 with fail
  any_goals
   (have hbad:nodeR x d (c-1)=false:=by
     cases hq:nodeR x d (c-1) with
     | false=>rfl
     | true=>exact absurd ((nodeR_2 HK.out).1 hq) (by have hn0:=HN0.out;omega)
    go_ret
    exact⟨by rw[left_none hbad];rfl,hb0⟩)
  all_goals
   have hgood:nodeR x d (c-1)=true:=(nodeR_2 HK.out).2 ⟨HN0.out,by omega,by omega⟩;have hi0:x.items.length=0:=by have hn0:=HN0.out;omega
   have hk:=HK.out;have E:Hid (leftP x c d=some (c-1)):=left_flat hc0 hgood hi0;have hli:¬ (0:Int)<x.items.length:=by omega
   have hl2:¬ (2:Int)<x.items.length:=by omega
   have HI:=Hh hi0;have HC:=Hh hgood;clear hi0 hk hgood;have c0:=hB.cell 0 rfl;have c3:=hB.cell 3 rfl;go_wp2_with fail
   refine wp_loop_rounds 1 ?_
   rw[rounds_succ];go_wp2_with fail
   refine wp_loop_rounds 1 ?_
   rw[rounds_succ];go_wp2_with fail
   go_ret
   exact⟨by rw[E.out,← HC1.out];rfl,hb0⟩
 ·have bn00:((x.n:Int) != 0)=true:=by simp[hn0]
  have bn01:(x.n=0)=False:=by first | exact eq_true hn0 | exact eq_false hn0
  have HN0:=Hh hn0;clear hn0;go_enter Tryz.func86,Tryz.ntmps86
  go_upto_region 22 with fail
  any_goals
   (have hbad:nodeR x d (c-1)=false:=by
     cases hq:nodeR x d (c-1) with
     | false=>rfl
     | true=>exact absurd ((nodeR_2 HK.out).1 hq) (by have hn0:=HN0.out;omega)
    go_ret
    exact⟨by rw[left_none hbad];rfl,hb0⟩)
  all_goals
   have hgood:nodeR x d (c-1)=true:=(nodeR_2 HK.out).2 ⟨HN0.out,by omega,by omega⟩;have hi0:x.items.length=0:=by have hn0:=HN0.out;omega
   have hk:=HK.out;have E:Hid (leftP x c d=some (c-1)):=left_flat hc0 hgood hi0;have hli:¬ (0:Int)<x.items.length:=by omega
   have hl2:¬ (2:Int)<x.items.length:=by omega
   have HI:=Hh hi0;have HC:=Hh hgood;clear hi0 hk hgood;have c0:=hB.cell 0 rfl;have c3:=hB.cell 3 rfl;go_wp2_with fail
   refine wp_loop_rounds 1 ?_
   rw[rounds_succ];go_wp2_with fail
   refine wp_loop_rounds 1 ?_
   rw[rounds_succ];go_wp2_with fail
   go_ret
   exact⟨by rw[E.out,← HC1.out];rfl,hb0⟩
theorem left_k7 (x:Itm) (hk:x.kind=7) {H:Snap}(hT:Tabs H) (ih:∀ y:Itm,cnt y<cnt x→LeftSaid y) {ba:Option Addr}{bc:Nat}{ia:Option Addr}{ic:Nat}(hx:IsItem H ba bc ia ic x) (w:World) (hH:Holds w H) (c d:Nat) (hc0:0<c) (hc:c≤65536) (hd:d≤65536) :
  Calls Tryz.prog 86 #[itemV x ba bc ia ic,.int .i64 c,.int .i64 d] w fun e w'=>e=.returned (.int .i64 (leftI (leftP x c d)))∧Below w.heap.size w w':=by
 have HX:=Hh hx;have hbd:=hx.bounds;have hB:=Blk.new w 26 #[.int .i64 x.kind,.int .u64 x.n,.slice ba x.bytes.length bc,.slice ia x.items.length ic];have hb0:=below_box w (itemO x ba bc ia ic);have hc1:((c-1:Nat):Int)=(c:Int)-1:=by omega
 have hbl:x.bytes.length≤9223372036854775807:=by omega
 have hil:x.items.length≤9223372036854775807:=by omega
 have HN:=Hh hbd.2.2.1;have hci:¬ (c:Int)<1:=by omega
 have k0:¬ x.kind<0:=by omega
 have k8:¬ 8<x.kind:=by omega
 have HK:=Hh hk;have HC1:=Hh hc1;clear hx hbd hc1;obtain⟨b0,b1,b2,b3,b4,b5,b6,b7,b8⟩:=kinds7 hk;clear hk
 by_cases hn0:x.n=0
 ·have bn00:((x.n:Int) != 0)=false:=by simp[hn0]
  have bn01:(x.n=0)=True:=by first | exact eq_true hn0 | exact eq_false hn0
  have HN0:=Hh hn0;clear hn0;go_enter Tryz.func86,Tryz.ntmps86
  go_upto_region 22 with fail
  any_goals
   (have hbad:nodeR x d (c-1)=false:=by
     cases hq:nodeR x d (c-1) with
     | false=>rfl
     | true=>exact absurd ((nodeR_7 HK.out).1 hq) (by have hn0:=HN0.out;omega)
    go_ret
    exact⟨by rw[left_none hbad];rfl,hb0⟩)
  all_goals
   have hgood:nodeR x d (c-1)=true:=(nodeR_7 HK.out).2 ⟨by omega,by omega,by have hn0:=HN0.out;omega⟩;have hi0:x.items.length=0:=by have hn0:=HN0.out;omega
   have hk:=HK.out;have E:Hid (leftP x c d=some (c-1)):=left_flat hc0 hgood hi0;have hli:¬ (0:Int)<x.items.length:=by omega
   have hl2:¬ (2:Int)<x.items.length:=by omega
   have HI:=Hh hi0;have HC:=Hh hgood;clear hi0 hk hgood;have c0:=hB.cell 0 rfl;have c3:=hB.cell 3 rfl;go_wp2_with fail
   refine wp_loop_rounds 1 ?_
   rw[rounds_succ];go_wp2_with fail
   refine wp_loop_rounds 1 ?_
   rw[rounds_succ];go_wp2_with fail
   go_ret
   exact⟨by rw[E.out,← HC1.out];rfl,hb0⟩
 ·have bn00:((x.n:Int) != 0)=true:=by simp[hn0]
  have bn01:(x.n=0)=False:=by first | exact eq_true hn0 | exact eq_false hn0
  have HN0:=Hh hn0;clear hn0;go_enter Tryz.func86,Tryz.ntmps86
  go_upto_region 22 with fail
  any_goals
   (have hbad:nodeR x d (c-1)=false:=by
     cases hq:nodeR x d (c-1) with
     | false=>rfl
     | true=>exact absurd ((nodeR_7 HK.out).1 hq) (by have hn0:=HN0.out;omega)
    go_ret
    exact⟨by rw[left_none hbad];rfl,hb0⟩)
  all_goals
   have hgood:nodeR x d (c-1)=true:=(nodeR_7 HK.out).2 ⟨by omega,by omega,by have hn0:=HN0.out;omega⟩;have hi0:x.items.length=0:=by have hn0:=HN0.out;omega
   have hk:=HK.out;have E:Hid (leftP x c d=some (c-1)):=left_flat hc0 hgood hi0;have hli:¬ (0:Int)<x.items.length:=by omega
   have hl2:¬ (2:Int)<x.items.length:=by omega
   have HI:=Hh hi0;have HC:=Hh hgood;clear hi0 hk hgood;have c0:=hB.cell 0 rfl;have c3:=hB.cell 3 rfl;go_wp2_with fail
   refine wp_loop_rounds 1 ?_
   rw[rounds_succ];go_wp2_with fail
   refine wp_loop_rounds 1 ?_
   rw[rounds_succ];go_wp2_with fail
   go_ret
   exact⟨by rw[E.out,← HC1.out];rfl,hb0⟩
theorem left_k4 (x:Itm) (hk:x.kind=4) {H:Snap}(hT:Tabs H) (ih:∀ y:Itm,cnt y<cnt x→LeftSaid y) {ba:Option Addr}{bc:Nat}{ia:Option Addr}{ic:Nat}(hx:IsItem H ba bc ia ic x) (w:World) (hH:Holds w H) (c d:Nat) (hc0:0<c) (hc:c≤65536) (hd:d≤65536) :
  Calls Tryz.prog 86 #[itemV x ba bc ia ic,.int .i64 c,.int .i64 d] w fun e w'=>e=.returned (.int .i64 (leftI (leftP x c d)))∧Below w.heap.size w w':=by
 have HX:=Hh hx;have hbd:=hx.bounds;have hB:=Blk.new w 26 #[.int .i64 x.kind,.int .u64 x.n,.slice ba x.bytes.length bc,.slice ia x.items.length ic];have hb0:=below_box w (itemO x ba bc ia ic);have hc1:((c-1:Nat):Int)=(c:Int)-1:=by omega
 have hbl:x.bytes.length≤9223372036854775807:=by omega
 have hil:x.items.length≤9223372036854775807:=by omega
 have HN:=Hh hbd.2.2.1;have hci:¬ (c:Int)<1:=by omega
 have k0:¬ x.kind<0:=by omega
 have k8:¬ 8<x.kind:=by omega
 have HK:=Hh hk;have HC1:=Hh hc1;clear hx hbd hc1;obtain⟨b0,b1,b2,b3,b4,b5,b6,b7,b8⟩:=kinds4 hk;clear hk
 by_cases hn0:x.n=0
 ·have bn00:((x.n:Int) != 0)=false:=by simp[hn0]
  have bn01:(x.n=0)=True:=by first | exact eq_true hn0 | exact eq_false hn0
  have HN0:=Hh hn0;clear hn0
  by_cases hpos:0<x.items.length
  ·have bpos0:(0:Int)<x.items.length:=by omega
   have HPOS:=Hh hpos;clear hpos;go_enter Tryz.func86,Tryz.ntmps86
   go_upto_region 22 with fail
   any_goals
    (have hbad:nodeR x d (c-1)=false:=by
      cases hq:nodeR x d (c-1) with
      | false=>rfl
      | true=>exact absurd ((nodeR_456 (by have:=HK.out;omega)).1 hq) (by have hn0:=HN0.out;have hpos:=HPOS.out;have hk:=HK.out;omega)
     go_ret
     exact⟨by rw[left_none hbad];rfl,hb0⟩)
   all_goals
    have HG:Hid (nodeR x d (c-1)=true):=(nodeR_456 (by have:=HK.out;omega)).2 ⟨by omega,by omega,fun h=>by have:=HK.out;omega,fun _=>HN0.out,fun h=>by have:=HK.out;omega,by omega⟩;have c0:=hB.cell 0 rfl;have c3:=hB.cell 3 rfl;go_wp2_with fail
    have hB0:=hB;have hbz:=hb0;go_loopw [1,157] (fun v1 v157 wr=>∃ (j r:Nat),j≤x.items.length∧r≤c∧v157=.int .i64 j∧v1=.int .i64 r∧leftL (x.items.drop j) r (d+1)=leftL x.items (c-1) (d+1)∧Below w.heap.size w wr∧Blk wr w.heap.size 26 #[.int .i64 x.kind,.int .u64 x.n,.slice ba x.bytes.length bc,.slice ia x.items.length ic]) (fun _ v157 _=>x.items.length-(intOf v157).toNat)
    case atStart=>exact⟨0,c-1,Nat.zero_le _,by omega,rfl,by rw[HC1.out],rfl,hbz,hB0⟩
    case round =>
     obtain⟨j,r,hj,hrc,rfl,rfl,hlr,hbr,hBr⟩:=hrel;have HLR:=Hh hlr;clear hlr
     by_cases hlt:j<x.items.length
     ·have hHr:Holds wr H:=hH.below hbr (Nat.le_refl _);obtain⟨ib,io,hia,hel⟩:=HX.out.items (by omega);obtain⟨eba,ebc,eia,eic,q0,q1,q2,q3,hex⟩:=hel.get j hlt;subst hia;have p0:=hHr.cell q0;have p1:=hHr.cell q1;have p2:=hHr.cell q2;have p3:=hHr.cell q3;have hstep:leftL (x.items.drop j) r (d+1)=match leftP x.items[j] r (d+1) with | none=>none | some r'=>leftL (x.items.drop (j+1)) r' (d+1):=by rw[List.drop_eq_getElem_cons hlt,leftL];cases leftP x.items[j] r (d+1) <;> rfl
      have hst:=Hh (hstep.symm.trans HLR.out);clear hstep;have IHC:=ih x.items[j] (cnt_items x j hlt) H hT _ _ eba _ ebc eia _ eic (wr.alloc (itemO x.items[j] eba ebc eia eic)) r (d+1) hex.arg (hHr.alloc _) (by omega) (by omega);rw[show((d+1:Nat):Int)=(d:Int)+1 by omega]at IHC;have IHH:=Hh IHC;have hbr5:=hbr.alloc hbr.size (itemO x.items[j] eba ebc eia eic);have hB5:=hBr.alloc (itemO x.items[j] eba ebc eia eic);clear IHC q0 q1 q2 q3
      cases hq:leftP x.items[j] r (d+1) with
      | none =>
       rw[hq]at IHH hst;have E:Hid (leftP x c d=none):=by rw[Hid,leftP_eq,if_neg (by omega),if_neg (by simp[HG.out]),← hst.out]
       clear hq hst;go_wp2_with fail
       refine IHH.out.mono ?_
       rintro e w6 ⟨rfl,hb6⟩
       have hb7:=hbr5.trans (hb6.mono hbr5.size)
       simp only[leftI]
       go_wp2_with fail
       go_ret
       exact⟨by rw[E.out];rfl,hb7⟩
      | some r' =>
       rw[hq]at IHH hst;have hrr:=(left_spec _ _ _ _ hq).2.2;have hst':Hid (leftL (x.items.drop (j+1)) r' (d+1)=leftL x.items (c-1) (d+1)):=hst.out;clear hq hst;have hr0:(0:Int)≤(r':Int):=by omega
       have hrc':r'≤c:=by omega
       go_wp2_with fail
       refine IHH.out.mono ?_
       rintro e w6 ⟨rfl,hb6⟩
       have hb7:=hbr5.trans (hb6.mono hbr5.size);have hB7:=hB5.below hb6
       simp only[leftI]
       clear hbr hBr hbr5 hB5 hb6 IHH p0 p1 p2 p3 hrr hHr;go_wp2_with fail
       go_roundw
       case rel=>exact⟨j+1,r',by omega,hrc',by go_num,rfl,hst'.out,hb7,hB7⟩
       case measure=>simp[intOf];omega
     ·have hjl:j=x.items.length:=by omega
      subst hjl;have hall:leftL x.items (c-1) (d+1)=some r:=by rw[← HLR.out,List.drop_length,leftL]
      have HALL:=Hh hall;clear hall HLR
      have E:Hid (leftP x c d=some r):=by
       rw[Hid,leftP_eq,if_neg (by omega),if_neg (by simp[HG.out]),HALL.out]
       simp only
       rw[if_neg (by rintro⟨h5,_⟩;rw[h5]at b5;cases b5)]
      have c0:=hBr.cell 0 rfl;go_wp2_with fail
      refine wp_loop_rounds 1 ?_
      rw[rounds_succ];go_wp2_with fail
      go_ret
      exact⟨by rw[E.out];rfl,hbr⟩
  ·have bpos0:¬ (0:Int)<x.items.length:=by omega
   have HPOS:=Hh hpos;clear hpos;go_enter Tryz.func86,Tryz.ntmps86
   go_upto_region 22 with fail
   any_goals
    (have hbad:nodeR x d (c-1)=false:=by
      cases hq:nodeR x d (c-1) with
      | false=>rfl
      | true=>exact absurd ((nodeR_456 (by have:=HK.out;omega)).1 hq) (by have hn0:=HN0.out;have hpos:=HPOS.out;have hk:=HK.out;omega)
     go_ret
     exact⟨by rw[left_none hbad];rfl,hb0⟩)
   all_goals
    have hgood:nodeR x d (c-1)=true:=(nodeR_456 (by have:=HK.out;omega)).2 ⟨by omega,by omega,fun h=>by have:=HK.out;omega,fun _=>HN0.out,fun h=>by have:=HK.out;omega,by omega⟩;have hi0:x.items.length=0:=by have hn0:=HN0.out;have hpos:=HPOS.out;have hk:=HK.out;omega
    have hk:=HK.out;have E:Hid (leftP x c d=some (c-1)):=left_flat hc0 hgood hi0;have hli:¬ (0:Int)<x.items.length:=by omega
    have hl2:¬ (2:Int)<x.items.length:=by omega
    have HI:=Hh hi0;have HC:=Hh hgood;clear hi0 hk hgood;have c0:=hB.cell 0 rfl;have c3:=hB.cell 3 rfl;go_wp2_with fail
    refine wp_loop_rounds 1 ?_
    rw[rounds_succ];go_wp2_with fail
    refine wp_loop_rounds 1 ?_
    rw[rounds_succ];go_wp2_with fail
    go_ret
    exact⟨by rw[E.out,← HC1.out];rfl,hb0⟩
 ·have bn00:((x.n:Int) != 0)=true:=by simp[hn0]
  have bn01:(x.n=0)=False:=by first | exact eq_true hn0 | exact eq_false hn0
  have HN0:=Hh hn0;clear hn0
  by_cases hpos:0<x.items.length
  ·have bpos0:(0:Int)<x.items.length:=by omega
   have HPOS:=Hh hpos;clear hpos;go_enter Tryz.func86,Tryz.ntmps86
   go_upto_region 22 with fail
   any_goals
    (have hbad:nodeR x d (c-1)=false:=by
      cases hq:nodeR x d (c-1) with
      | false=>rfl
      | true=>exact absurd ((nodeR_456 (by have:=HK.out;omega)).1 hq) (by have hn0:=HN0.out;have hpos:=HPOS.out;have hk:=HK.out;omega)
     go_ret
     exact⟨by rw[left_none hbad];rfl,hb0⟩)
   all_goals
    have HG:Hid (nodeR x d (c-1)=true):=(nodeR_456 (by have:=HK.out;omega)).2 ⟨by omega,by omega,fun h=>by have:=HK.out;omega,fun _=>HN0.out,fun h=>by have:=HK.out;omega,by omega⟩;have c0:=hB.cell 0 rfl;have c3:=hB.cell 3 rfl;go_wp2_with fail
    have hB0:=hB;have hbz:=hb0;go_loopw [1,157] (fun v1 v157 wr=>∃ (j r:Nat),j≤x.items.length∧r≤c∧v157=.int .i64 j∧v1=.int .i64 r∧leftL (x.items.drop j) r (d+1)=leftL x.items (c-1) (d+1)∧Below w.heap.size w wr∧Blk wr w.heap.size 26 #[.int .i64 x.kind,.int .u64 x.n,.slice ba x.bytes.length bc,.slice ia x.items.length ic]) (fun _ v157 _=>x.items.length-(intOf v157).toNat)
    case atStart=>exact⟨0,c-1,Nat.zero_le _,by omega,rfl,by rw[HC1.out],rfl,hbz,hB0⟩
    case round =>
     obtain⟨j,r,hj,hrc,rfl,rfl,hlr,hbr,hBr⟩:=hrel;have HLR:=Hh hlr;clear hlr
     by_cases hlt:j<x.items.length
     ·have hHr:Holds wr H:=hH.below hbr (Nat.le_refl _);obtain⟨ib,io,hia,hel⟩:=HX.out.items (by omega);obtain⟨eba,ebc,eia,eic,q0,q1,q2,q3,hex⟩:=hel.get j hlt;subst hia;have p0:=hHr.cell q0;have p1:=hHr.cell q1;have p2:=hHr.cell q2;have p3:=hHr.cell q3;have hstep:leftL (x.items.drop j) r (d+1)=match leftP x.items[j] r (d+1) with | none=>none | some r'=>leftL (x.items.drop (j+1)) r' (d+1):=by rw[List.drop_eq_getElem_cons hlt,leftL];cases leftP x.items[j] r (d+1) <;> rfl
      have hst:=Hh (hstep.symm.trans HLR.out);clear hstep;have IHC:=ih x.items[j] (cnt_items x j hlt) H hT _ _ eba _ ebc eia _ eic (wr.alloc (itemO x.items[j] eba ebc eia eic)) r (d+1) hex.arg (hHr.alloc _) (by omega) (by omega);rw[show((d+1:Nat):Int)=(d:Int)+1 by omega]at IHC;have IHH:=Hh IHC;have hbr5:=hbr.alloc hbr.size (itemO x.items[j] eba ebc eia eic);have hB5:=hBr.alloc (itemO x.items[j] eba ebc eia eic);clear IHC q0 q1 q2 q3
      cases hq:leftP x.items[j] r (d+1) with
      | none =>
       rw[hq]at IHH hst;have E:Hid (leftP x c d=none):=by rw[Hid,leftP_eq,if_neg (by omega),if_neg (by simp[HG.out]),← hst.out]
       clear hq hst;go_wp2_with fail
       refine IHH.out.mono ?_
       rintro e w6 ⟨rfl,hb6⟩
       have hb7:=hbr5.trans (hb6.mono hbr5.size)
       simp only[leftI]
       go_wp2_with fail
       go_ret
       exact⟨by rw[E.out];rfl,hb7⟩
      | some r' =>
       rw[hq]at IHH hst;have hrr:=(left_spec _ _ _ _ hq).2.2;have hst':Hid (leftL (x.items.drop (j+1)) r' (d+1)=leftL x.items (c-1) (d+1)):=hst.out;clear hq hst;have hr0:(0:Int)≤(r':Int):=by omega
       have hrc':r'≤c:=by omega
       go_wp2_with fail
       refine IHH.out.mono ?_
       rintro e w6 ⟨rfl,hb6⟩
       have hb7:=hbr5.trans (hb6.mono hbr5.size);have hB7:=hB5.below hb6
       simp only[leftI]
       clear hbr hBr hbr5 hB5 hb6 IHH p0 p1 p2 p3 hrr hHr;go_wp2_with fail
       go_roundw
       case rel=>exact⟨j+1,r',by omega,hrc',by go_num,rfl,hst'.out,hb7,hB7⟩
       case measure=>simp[intOf];omega
     ·have hjl:j=x.items.length:=by omega
      subst hjl;have hall:leftL x.items (c-1) (d+1)=some r:=by rw[← HLR.out,List.drop_length,leftL]
      have HALL:=Hh hall;clear hall HLR
      have E:Hid (leftP x c d=some r):=by
       rw[Hid,leftP_eq,if_neg (by omega),if_neg (by simp[HG.out]),HALL.out]
       simp only
       rw[if_neg (by rintro⟨h5,_⟩;rw[h5]at b5;cases b5)]
      have c0:=hBr.cell 0 rfl;go_wp2_with fail
      refine wp_loop_rounds 1 ?_
      rw[rounds_succ];go_wp2_with fail
      go_ret
      exact⟨by rw[E.out];rfl,hbr⟩
  ·have bpos0:¬ (0:Int)<x.items.length:=by omega
   have HPOS:=Hh hpos;clear hpos;go_enter Tryz.func86,Tryz.ntmps86
   go_upto_region 22 with fail
   any_goals
    (have hbad:nodeR x d (c-1)=false:=by
      cases hq:nodeR x d (c-1) with
      | false=>rfl
      | true=>exact absurd ((nodeR_456 (by have:=HK.out;omega)).1 hq) (by have hn0:=HN0.out;have hpos:=HPOS.out;have hk:=HK.out;omega)
     go_ret
     exact⟨by rw[left_none hbad];rfl,hb0⟩)
   all_goals
    have hgood:nodeR x d (c-1)=true:=(nodeR_456 (by have:=HK.out;omega)).2 ⟨by omega,by omega,fun h=>by have:=HK.out;omega,fun _=>HN0.out,fun h=>by have:=HK.out;omega,by omega⟩;have hi0:x.items.length=0:=by have hn0:=HN0.out;have hpos:=HPOS.out;have hk:=HK.out;omega
    have hk:=HK.out;have E:Hid (leftP x c d=some (c-1)):=left_flat hc0 hgood hi0;have hli:¬ (0:Int)<x.items.length:=by omega
    have hl2:¬ (2:Int)<x.items.length:=by omega
    have HI:=Hh hi0;have HC:=Hh hgood;clear hi0 hk hgood;have c0:=hB.cell 0 rfl;have c3:=hB.cell 3 rfl;go_wp2_with fail
    refine wp_loop_rounds 1 ?_
    rw[rounds_succ];go_wp2_with fail
    refine wp_loop_rounds 1 ?_
    rw[rounds_succ];go_wp2_with fail
    go_ret
    exact⟨by rw[E.out,← HC1.out];rfl,hb0⟩
theorem left_k6 (x:Itm) (hk:x.kind=6) {H:Snap}(hT:Tabs H) (ih:∀ y:Itm,cnt y<cnt x→LeftSaid y) {ba:Option Addr}{bc:Nat}{ia:Option Addr}{ic:Nat}(hx:IsItem H ba bc ia ic x) (w:World) (hH:Holds w H) (c d:Nat) (hc0:0<c) (hc:c≤65536) (hd:d≤65536) :
  Calls Tryz.prog 86 #[itemV x ba bc ia ic,.int .i64 c,.int .i64 d] w fun e w'=>e=.returned (.int .i64 (leftI (leftP x c d)))∧Below w.heap.size w w':=by
 have HX:=Hh hx;have hbd:=hx.bounds;have hB:=Blk.new w 26 #[.int .i64 x.kind,.int .u64 x.n,.slice ba x.bytes.length bc,.slice ia x.items.length ic];have hb0:=below_box w (itemO x ba bc ia ic);have hc1:((c-1:Nat):Int)=(c:Int)-1:=by omega
 have hbl:x.bytes.length≤9223372036854775807:=by omega
 have hil:x.items.length≤9223372036854775807:=by omega
 have HN:=Hh hbd.2.2.1;have hci:¬ (c:Int)<1:=by omega
 have k0:¬ x.kind<0:=by omega
 have k8:¬ 8<x.kind:=by omega
 have HK:=Hh hk;have HC1:=Hh hc1;clear hx hbd hc1;obtain⟨b0,b1,b2,b3,b4,b5,b6,b7,b8⟩:=kinds6 hk;clear hk
 by_cases hn0:x.n=0
 ·have bn00:((x.n:Int) != 0)=false:=by simp[hn0]
  have bn01:(x.n=0)=True:=by first | exact eq_true hn0 | exact eq_false hn0
  have HN0:=Hh hn0;clear hn0
  by_cases hone:x.items.length=1
  ·have bone0:((x.items.length:Int) != 1)=false:=by(first | (rw[bne_eq_false_iff_eq];omega) | (rw[bne_iff_ne];omega))
   have HONE:=Hh hone;clear hone
   by_cases hpos:0<x.items.length
   ·have bpos0:(0:Int)<x.items.length:=by omega
    have HPOS:=Hh hpos;clear hpos;go_enter Tryz.func86,Tryz.ntmps86
    go_upto_region 22 with fail
    any_goals
     (have hbad:nodeR x d (c-1)=false:=by
       cases hq:nodeR x d (c-1) with
       | false=>rfl
       | true=>exact absurd ((nodeR_456 (by have:=HK.out;omega)).1 hq) (by have hn0:=HN0.out;have hone:=HONE.out;have hpos:=HPOS.out;have hk:=HK.out;omega)
      go_ret
      exact⟨by rw[left_none hbad];rfl,hb0⟩)
    all_goals
     have HG:Hid (nodeR x d (c-1)=true):=(nodeR_456 (by have:=HK.out;omega)).2 ⟨by omega,by omega,fun h=>HONE.out,fun h=>by have:=HK.out;omega,fun h=>by have:=HK.out;omega,by omega⟩;have c0:=hB.cell 0 rfl;have c3:=hB.cell 3 rfl;go_wp2_with fail
     have hB0:=hB;have hbz:=hb0;go_loopw [1,157] (fun v1 v157 wr=>∃ (j r:Nat),j≤x.items.length∧r≤c∧v157=.int .i64 j∧v1=.int .i64 r∧leftL (x.items.drop j) r (d+1)=leftL x.items (c-1) (d+1)∧Below w.heap.size w wr∧Blk wr w.heap.size 26 #[.int .i64 x.kind,.int .u64 x.n,.slice ba x.bytes.length bc,.slice ia x.items.length ic]) (fun _ v157 _=>x.items.length-(intOf v157).toNat)
     case atStart=>exact⟨0,c-1,Nat.zero_le _,by omega,rfl,by rw[HC1.out],rfl,hbz,hB0⟩
     case round =>
      obtain⟨j,r,hj,hrc,rfl,rfl,hlr,hbr,hBr⟩:=hrel;have HLR:=Hh hlr;clear hlr
      by_cases hlt:j<x.items.length
      ·have hHr:Holds wr H:=hH.below hbr (Nat.le_refl _);obtain⟨ib,io,hia,hel⟩:=HX.out.items (by omega);obtain⟨eba,ebc,eia,eic,q0,q1,q2,q3,hex⟩:=hel.get j hlt;subst hia;have p0:=hHr.cell q0;have p1:=hHr.cell q1;have p2:=hHr.cell q2;have p3:=hHr.cell q3;have hstep:leftL (x.items.drop j) r (d+1)=match leftP x.items[j] r (d+1) with | none=>none | some r'=>leftL (x.items.drop (j+1)) r' (d+1):=by rw[List.drop_eq_getElem_cons hlt,leftL];cases leftP x.items[j] r (d+1) <;> rfl
       have hst:=Hh (hstep.symm.trans HLR.out);clear hstep;have IHC:=ih x.items[j] (cnt_items x j hlt) H hT _ _ eba _ ebc eia _ eic (wr.alloc (itemO x.items[j] eba ebc eia eic)) r (d+1) hex.arg (hHr.alloc _) (by omega) (by omega);rw[show((d+1:Nat):Int)=(d:Int)+1 by omega]at IHC;have IHH:=Hh IHC;have hbr5:=hbr.alloc hbr.size (itemO x.items[j] eba ebc eia eic);have hB5:=hBr.alloc (itemO x.items[j] eba ebc eia eic);clear IHC q0 q1 q2 q3
       cases hq:leftP x.items[j] r (d+1) with
       | none =>
        rw[hq]at IHH hst;have E:Hid (leftP x c d=none):=by rw[Hid,leftP_eq,if_neg (by omega),if_neg (by simp[HG.out]),← hst.out]
        clear hq hst;go_wp2_with fail
        refine IHH.out.mono ?_
        rintro e w6 ⟨rfl,hb6⟩
        have hb7:=hbr5.trans (hb6.mono hbr5.size)
        simp only[leftI]
        go_wp2_with fail
        go_ret
        exact⟨by rw[E.out];rfl,hb7⟩
       | some r' =>
        rw[hq]at IHH hst;have hrr:=(left_spec _ _ _ _ hq).2.2;have hst':Hid (leftL (x.items.drop (j+1)) r' (d+1)=leftL x.items (c-1) (d+1)):=hst.out;clear hq hst;have hr0:(0:Int)≤(r':Int):=by omega
        have hrc':r'≤c:=by omega
        go_wp2_with fail
        refine IHH.out.mono ?_
        rintro e w6 ⟨rfl,hb6⟩
        have hb7:=hbr5.trans (hb6.mono hbr5.size);have hB7:=hB5.below hb6
        simp only[leftI]
        clear hbr hBr hbr5 hB5 hb6 IHH p0 p1 p2 p3 hrr hHr;go_wp2_with fail
        go_roundw
        case rel=>exact⟨j+1,r',by omega,hrc',by go_num,rfl,hst'.out,hb7,hB7⟩
        case measure=>simp[intOf];omega
      ·have hjl:j=x.items.length:=by omega
       subst hjl;have hall:leftL x.items (c-1) (d+1)=some r:=by rw[← HLR.out,List.drop_length,leftL]
       have HALL:=Hh hall;clear hall HLR
       have E:Hid (leftP x c d=some r):=by
        rw[Hid,leftP_eq,if_neg (by omega),if_neg (by simp[HG.out]),HALL.out]
        simp only
        rw[if_neg (by rintro⟨h5,_⟩;rw[h5]at b5;cases b5)]
       have c0:=hBr.cell 0 rfl;go_wp2_with fail
       refine wp_loop_rounds 1 ?_
       rw[rounds_succ];go_wp2_with fail
       go_ret
       exact⟨by rw[E.out];rfl,hbr⟩
   ·have bpos0:¬ (0:Int)<x.items.length:=by omega
    have HPOS:=Hh hpos;clear hpos;go_enter Tryz.func86,Tryz.ntmps86
    go_upto_region 22 with fail
    any_goals
     (have hbad:nodeR x d (c-1)=false:=by
       cases hq:nodeR x d (c-1) with
       | false=>rfl
       | true=>exact absurd ((nodeR_456 (by have:=HK.out;omega)).1 hq) (by have hn0:=HN0.out;have hone:=HONE.out;have hpos:=HPOS.out;have hk:=HK.out;omega)
      go_ret
      exact⟨by rw[left_none hbad];rfl,hb0⟩)
    all_goals
     have hgood:nodeR x d (c-1)=true:=(nodeR_456 (by have:=HK.out;omega)).2 ⟨by omega,by omega,fun h=>HONE.out,fun h=>by have:=HK.out;omega,fun h=>by have:=HK.out;omega,by omega⟩;have hi0:x.items.length=0:=by have hn0:=HN0.out;have hone:=HONE.out;have hpos:=HPOS.out;have hk:=HK.out;omega
     have hk:=HK.out;have E:Hid (leftP x c d=some (c-1)):=left_flat hc0 hgood hi0;have hli:¬ (0:Int)<x.items.length:=by omega
     have hl2:¬ (2:Int)<x.items.length:=by omega
     have HI:=Hh hi0;have HC:=Hh hgood;clear hi0 hk hgood;have c0:=hB.cell 0 rfl;have c3:=hB.cell 3 rfl;go_wp2_with fail
     refine wp_loop_rounds 1 ?_
     rw[rounds_succ];go_wp2_with fail
     refine wp_loop_rounds 1 ?_
     rw[rounds_succ];go_wp2_with fail
     go_ret
     exact⟨by rw[E.out,← HC1.out];rfl,hb0⟩
  ·have bone0:((x.items.length:Int) != 1)=true:=by(first | (rw[bne_eq_false_iff_eq];omega) | (rw[bne_iff_ne];omega))
   have HONE:=Hh hone;clear hone
   by_cases hpos:0<x.items.length
   ·have bpos0:(0:Int)<x.items.length:=by omega
    have HPOS:=Hh hpos;clear hpos;go_enter Tryz.func86,Tryz.ntmps86
    go_upto_region 22 with fail
    any_goals
     (have hbad:nodeR x d (c-1)=false:=by
       cases hq:nodeR x d (c-1) with
       | false=>rfl
       | true=>exact absurd ((nodeR_456 (by have:=HK.out;omega)).1 hq) (by have hn0:=HN0.out;have hone:=HONE.out;have hpos:=HPOS.out;have hk:=HK.out;omega)
      go_ret
      exact⟨by rw[left_none hbad];rfl,hb0⟩)
    all_goals
     have HG:Hid (nodeR x d (c-1)=true):=(nodeR_456 (by have:=HK.out;omega)).2 ⟨by omega,by omega,fun h=>HONE.out,fun h=>by have:=HK.out;omega,fun h=>by have:=HK.out;omega,by omega⟩;have c0:=hB.cell 0 rfl;have c3:=hB.cell 3 rfl;go_wp2_with fail
     have hB0:=hB;have hbz:=hb0;go_loopw [1,157] (fun v1 v157 wr=>∃ (j r:Nat),j≤x.items.length∧r≤c∧v157=.int .i64 j∧v1=.int .i64 r∧leftL (x.items.drop j) r (d+1)=leftL x.items (c-1) (d+1)∧Below w.heap.size w wr∧Blk wr w.heap.size 26 #[.int .i64 x.kind,.int .u64 x.n,.slice ba x.bytes.length bc,.slice ia x.items.length ic]) (fun _ v157 _=>x.items.length-(intOf v157).toNat)
     case atStart=>exact⟨0,c-1,Nat.zero_le _,by omega,rfl,by rw[HC1.out],rfl,hbz,hB0⟩
     case round =>
      obtain⟨j,r,hj,hrc,rfl,rfl,hlr,hbr,hBr⟩:=hrel;have HLR:=Hh hlr;clear hlr
      by_cases hlt:j<x.items.length
      ·have hHr:Holds wr H:=hH.below hbr (Nat.le_refl _);obtain⟨ib,io,hia,hel⟩:=HX.out.items (by omega);obtain⟨eba,ebc,eia,eic,q0,q1,q2,q3,hex⟩:=hel.get j hlt;subst hia;have p0:=hHr.cell q0;have p1:=hHr.cell q1;have p2:=hHr.cell q2;have p3:=hHr.cell q3;have hstep:leftL (x.items.drop j) r (d+1)=match leftP x.items[j] r (d+1) with | none=>none | some r'=>leftL (x.items.drop (j+1)) r' (d+1):=by rw[List.drop_eq_getElem_cons hlt,leftL];cases leftP x.items[j] r (d+1) <;> rfl
       have hst:=Hh (hstep.symm.trans HLR.out);clear hstep;have IHC:=ih x.items[j] (cnt_items x j hlt) H hT _ _ eba _ ebc eia _ eic (wr.alloc (itemO x.items[j] eba ebc eia eic)) r (d+1) hex.arg (hHr.alloc _) (by omega) (by omega);rw[show((d+1:Nat):Int)=(d:Int)+1 by omega]at IHC;have IHH:=Hh IHC;have hbr5:=hbr.alloc hbr.size (itemO x.items[j] eba ebc eia eic);have hB5:=hBr.alloc (itemO x.items[j] eba ebc eia eic);clear IHC q0 q1 q2 q3
       cases hq:leftP x.items[j] r (d+1) with
       | none =>
        rw[hq]at IHH hst;have E:Hid (leftP x c d=none):=by rw[Hid,leftP_eq,if_neg (by omega),if_neg (by simp[HG.out]),← hst.out]
        clear hq hst;go_wp2_with fail
        refine IHH.out.mono ?_
        rintro e w6 ⟨rfl,hb6⟩
        have hb7:=hbr5.trans (hb6.mono hbr5.size)
        simp only[leftI]
        go_wp2_with fail
        go_ret
        exact⟨by rw[E.out];rfl,hb7⟩
       | some r' =>
        rw[hq]at IHH hst;have hrr:=(left_spec _ _ _ _ hq).2.2;have hst':Hid (leftL (x.items.drop (j+1)) r' (d+1)=leftL x.items (c-1) (d+1)):=hst.out;clear hq hst;have hr0:(0:Int)≤(r':Int):=by omega
        have hrc':r'≤c:=by omega
        go_wp2_with fail
        refine IHH.out.mono ?_
        rintro e w6 ⟨rfl,hb6⟩
        have hb7:=hbr5.trans (hb6.mono hbr5.size);have hB7:=hB5.below hb6
        simp only[leftI]
        clear hbr hBr hbr5 hB5 hb6 IHH p0 p1 p2 p3 hrr hHr;go_wp2_with fail
        go_roundw
        case rel=>exact⟨j+1,r',by omega,hrc',by go_num,rfl,hst'.out,hb7,hB7⟩
        case measure=>simp[intOf];omega
      ·have hjl:j=x.items.length:=by omega
       subst hjl;have hall:leftL x.items (c-1) (d+1)=some r:=by rw[← HLR.out,List.drop_length,leftL]
       have HALL:=Hh hall;clear hall HLR
       have E:Hid (leftP x c d=some r):=by
        rw[Hid,leftP_eq,if_neg (by omega),if_neg (by simp[HG.out]),HALL.out]
        simp only
        rw[if_neg (by rintro⟨h5,_⟩;rw[h5]at b5;cases b5)]
       have c0:=hBr.cell 0 rfl;go_wp2_with fail
       refine wp_loop_rounds 1 ?_
       rw[rounds_succ];go_wp2_with fail
       go_ret
       exact⟨by rw[E.out];rfl,hbr⟩
   ·have bpos0:¬ (0:Int)<x.items.length:=by omega
    have HPOS:=Hh hpos;clear hpos;go_enter Tryz.func86,Tryz.ntmps86
    go_upto_region 22 with fail
    any_goals
     (have hbad:nodeR x d (c-1)=false:=by
       cases hq:nodeR x d (c-1) with
       | false=>rfl
       | true=>exact absurd ((nodeR_456 (by have:=HK.out;omega)).1 hq) (by have hn0:=HN0.out;have hone:=HONE.out;have hpos:=HPOS.out;have hk:=HK.out;omega)
      go_ret
      exact⟨by rw[left_none hbad];rfl,hb0⟩)
    all_goals
     have hgood:nodeR x d (c-1)=true:=(nodeR_456 (by have:=HK.out;omega)).2 ⟨by omega,by omega,fun h=>HONE.out,fun h=>by have:=HK.out;omega,fun h=>by have:=HK.out;omega,by omega⟩;have hi0:x.items.length=0:=by have hn0:=HN0.out;have hone:=HONE.out;have hpos:=HPOS.out;have hk:=HK.out;omega
     have hk:=HK.out;have E:Hid (leftP x c d=some (c-1)):=left_flat hc0 hgood hi0;have hli:¬ (0:Int)<x.items.length:=by omega
     have hl2:¬ (2:Int)<x.items.length:=by omega
     have HI:=Hh hi0;have HC:=Hh hgood;clear hi0 hk hgood;have c0:=hB.cell 0 rfl;have c3:=hB.cell 3 rfl;go_wp2_with fail
     refine wp_loop_rounds 1 ?_
     rw[rounds_succ];go_wp2_with fail
     refine wp_loop_rounds 1 ?_
     rw[rounds_succ];go_wp2_with fail
     go_ret
     exact⟨by rw[E.out,← HC1.out];rfl,hb0⟩
 ·have bn00:((x.n:Int) != 0)=true:=by simp[hn0]
  have bn01:(x.n=0)=False:=by first | exact eq_true hn0 | exact eq_false hn0
  have HN0:=Hh hn0;clear hn0
  by_cases hone:x.items.length=1
  ·have bone0:((x.items.length:Int) != 1)=false:=by(first | (rw[bne_eq_false_iff_eq];omega) | (rw[bne_iff_ne];omega))
   have HONE:=Hh hone;clear hone
   by_cases hpos:0<x.items.length
   ·have bpos0:(0:Int)<x.items.length:=by omega
    have HPOS:=Hh hpos;clear hpos;go_enter Tryz.func86,Tryz.ntmps86
    go_upto_region 22 with fail
    any_goals
     (have hbad:nodeR x d (c-1)=false:=by
       cases hq:nodeR x d (c-1) with
       | false=>rfl
       | true=>exact absurd ((nodeR_456 (by have:=HK.out;omega)).1 hq) (by have hn0:=HN0.out;have hone:=HONE.out;have hpos:=HPOS.out;have hk:=HK.out;omega)
      go_ret
      exact⟨by rw[left_none hbad];rfl,hb0⟩)
    all_goals
     have HG:Hid (nodeR x d (c-1)=true):=(nodeR_456 (by have:=HK.out;omega)).2 ⟨by omega,by omega,fun h=>HONE.out,fun h=>by have:=HK.out;omega,fun h=>by have:=HK.out;omega,by omega⟩;have c0:=hB.cell 0 rfl;have c3:=hB.cell 3 rfl;go_wp2_with fail
     have hB0:=hB;have hbz:=hb0;go_loopw [1,157] (fun v1 v157 wr=>∃ (j r:Nat),j≤x.items.length∧r≤c∧v157=.int .i64 j∧v1=.int .i64 r∧leftL (x.items.drop j) r (d+1)=leftL x.items (c-1) (d+1)∧Below w.heap.size w wr∧Blk wr w.heap.size 26 #[.int .i64 x.kind,.int .u64 x.n,.slice ba x.bytes.length bc,.slice ia x.items.length ic]) (fun _ v157 _=>x.items.length-(intOf v157).toNat)
     case atStart=>exact⟨0,c-1,Nat.zero_le _,by omega,rfl,by rw[HC1.out],rfl,hbz,hB0⟩
     case round =>
      obtain⟨j,r,hj,hrc,rfl,rfl,hlr,hbr,hBr⟩:=hrel;have HLR:=Hh hlr;clear hlr
      by_cases hlt:j<x.items.length
      ·have hHr:Holds wr H:=hH.below hbr (Nat.le_refl _);obtain⟨ib,io,hia,hel⟩:=HX.out.items (by omega);obtain⟨eba,ebc,eia,eic,q0,q1,q2,q3,hex⟩:=hel.get j hlt;subst hia;have p0:=hHr.cell q0;have p1:=hHr.cell q1;have p2:=hHr.cell q2;have p3:=hHr.cell q3;have hstep:leftL (x.items.drop j) r (d+1)=match leftP x.items[j] r (d+1) with | none=>none | some r'=>leftL (x.items.drop (j+1)) r' (d+1):=by rw[List.drop_eq_getElem_cons hlt,leftL];cases leftP x.items[j] r (d+1) <;> rfl
       have hst:=Hh (hstep.symm.trans HLR.out);clear hstep;have IHC:=ih x.items[j] (cnt_items x j hlt) H hT _ _ eba _ ebc eia _ eic (wr.alloc (itemO x.items[j] eba ebc eia eic)) r (d+1) hex.arg (hHr.alloc _) (by omega) (by omega);rw[show((d+1:Nat):Int)=(d:Int)+1 by omega]at IHC;have IHH:=Hh IHC;have hbr5:=hbr.alloc hbr.size (itemO x.items[j] eba ebc eia eic);have hB5:=hBr.alloc (itemO x.items[j] eba ebc eia eic);clear IHC q0 q1 q2 q3
       cases hq:leftP x.items[j] r (d+1) with
       | none =>
        rw[hq]at IHH hst;have E:Hid (leftP x c d=none):=by rw[Hid,leftP_eq,if_neg (by omega),if_neg (by simp[HG.out]),← hst.out]
        clear hq hst;go_wp2_with fail
        refine IHH.out.mono ?_
        rintro e w6 ⟨rfl,hb6⟩
        have hb7:=hbr5.trans (hb6.mono hbr5.size)
        simp only[leftI]
        go_wp2_with fail
        go_ret
        exact⟨by rw[E.out];rfl,hb7⟩
       | some r' =>
        rw[hq]at IHH hst;have hrr:=(left_spec _ _ _ _ hq).2.2;have hst':Hid (leftL (x.items.drop (j+1)) r' (d+1)=leftL x.items (c-1) (d+1)):=hst.out;clear hq hst;have hr0:(0:Int)≤(r':Int):=by omega
        have hrc':r'≤c:=by omega
        go_wp2_with fail
        refine IHH.out.mono ?_
        rintro e w6 ⟨rfl,hb6⟩
        have hb7:=hbr5.trans (hb6.mono hbr5.size);have hB7:=hB5.below hb6
        simp only[leftI]
        clear hbr hBr hbr5 hB5 hb6 IHH p0 p1 p2 p3 hrr hHr;go_wp2_with fail
        go_roundw
        case rel=>exact⟨j+1,r',by omega,hrc',by go_num,rfl,hst'.out,hb7,hB7⟩
        case measure=>simp[intOf];omega
      ·have hjl:j=x.items.length:=by omega
       subst hjl;have hall:leftL x.items (c-1) (d+1)=some r:=by rw[← HLR.out,List.drop_length,leftL]
       have HALL:=Hh hall;clear hall HLR
       have E:Hid (leftP x c d=some r):=by
        rw[Hid,leftP_eq,if_neg (by omega),if_neg (by simp[HG.out]),HALL.out]
        simp only
        rw[if_neg (by rintro⟨h5,_⟩;rw[h5]at b5;cases b5)]
       have c0:=hBr.cell 0 rfl;go_wp2_with fail
       refine wp_loop_rounds 1 ?_
       rw[rounds_succ];go_wp2_with fail
       go_ret
       exact⟨by rw[E.out];rfl,hbr⟩
   ·have bpos0:¬ (0:Int)<x.items.length:=by omega
    have HPOS:=Hh hpos;clear hpos;go_enter Tryz.func86,Tryz.ntmps86
    go_upto_region 22 with fail
    any_goals
     (have hbad:nodeR x d (c-1)=false:=by
       cases hq:nodeR x d (c-1) with
       | false=>rfl
       | true=>exact absurd ((nodeR_456 (by have:=HK.out;omega)).1 hq) (by have hn0:=HN0.out;have hone:=HONE.out;have hpos:=HPOS.out;have hk:=HK.out;omega)
      go_ret
      exact⟨by rw[left_none hbad];rfl,hb0⟩)
    all_goals
     have hgood:nodeR x d (c-1)=true:=(nodeR_456 (by have:=HK.out;omega)).2 ⟨by omega,by omega,fun h=>HONE.out,fun h=>by have:=HK.out;omega,fun h=>by have:=HK.out;omega,by omega⟩;have hi0:x.items.length=0:=by have hn0:=HN0.out;have hone:=HONE.out;have hpos:=HPOS.out;have hk:=HK.out;omega
     have hk:=HK.out;have E:Hid (leftP x c d=some (c-1)):=left_flat hc0 hgood hi0;have hli:¬ (0:Int)<x.items.length:=by omega
     have hl2:¬ (2:Int)<x.items.length:=by omega
     have HI:=Hh hi0;have HC:=Hh hgood;clear hi0 hk hgood;have c0:=hB.cell 0 rfl;have c3:=hB.cell 3 rfl;go_wp2_with fail
     refine wp_loop_rounds 1 ?_
     rw[rounds_succ];go_wp2_with fail
     refine wp_loop_rounds 1 ?_
     rw[rounds_succ];go_wp2_with fail
     go_ret
     exact⟨by rw[E.out,← HC1.out];rfl,hb0⟩
  ·have bone0:((x.items.length:Int) != 1)=true:=by(first | (rw[bne_eq_false_iff_eq];omega) | (rw[bne_iff_ne];omega))
   have HONE:=Hh hone;clear hone
   by_cases hpos:0<x.items.length
   ·have bpos0:(0:Int)<x.items.length:=by omega
    have HPOS:=Hh hpos;clear hpos;go_enter Tryz.func86,Tryz.ntmps86
    go_upto_region 22 with fail
    any_goals
     (have hbad:nodeR x d (c-1)=false:=by
       cases hq:nodeR x d (c-1) with
       | false=>rfl
       | true=>exact absurd ((nodeR_456 (by have:=HK.out;omega)).1 hq) (by have hn0:=HN0.out;have hone:=HONE.out;have hpos:=HPOS.out;have hk:=HK.out;omega)
      go_ret
      exact⟨by rw[left_none hbad];rfl,hb0⟩)
    all_goals
     have HG:Hid (nodeR x d (c-1)=true):=(nodeR_456 (by have:=HK.out;omega)).2 ⟨by omega,by omega,fun h=>HONE.out,fun h=>by have:=HK.out;omega,fun h=>by have:=HK.out;omega,by omega⟩;have c0:=hB.cell 0 rfl;have c3:=hB.cell 3 rfl;go_wp2_with fail
     have hB0:=hB;have hbz:=hb0;go_loopw [1,157] (fun v1 v157 wr=>∃ (j r:Nat),j≤x.items.length∧r≤c∧v157=.int .i64 j∧v1=.int .i64 r∧leftL (x.items.drop j) r (d+1)=leftL x.items (c-1) (d+1)∧Below w.heap.size w wr∧Blk wr w.heap.size 26 #[.int .i64 x.kind,.int .u64 x.n,.slice ba x.bytes.length bc,.slice ia x.items.length ic]) (fun _ v157 _=>x.items.length-(intOf v157).toNat)
     case atStart=>exact⟨0,c-1,Nat.zero_le _,by omega,rfl,by rw[HC1.out],rfl,hbz,hB0⟩
     case round =>
      obtain⟨j,r,hj,hrc,rfl,rfl,hlr,hbr,hBr⟩:=hrel;have HLR:=Hh hlr;clear hlr
      by_cases hlt:j<x.items.length
      ·have hHr:Holds wr H:=hH.below hbr (Nat.le_refl _);obtain⟨ib,io,hia,hel⟩:=HX.out.items (by omega);obtain⟨eba,ebc,eia,eic,q0,q1,q2,q3,hex⟩:=hel.get j hlt;subst hia;have p0:=hHr.cell q0;have p1:=hHr.cell q1;have p2:=hHr.cell q2;have p3:=hHr.cell q3;have hstep:leftL (x.items.drop j) r (d+1)=match leftP x.items[j] r (d+1) with | none=>none | some r'=>leftL (x.items.drop (j+1)) r' (d+1):=by rw[List.drop_eq_getElem_cons hlt,leftL];cases leftP x.items[j] r (d+1) <;> rfl
       have hst:=Hh (hstep.symm.trans HLR.out);clear hstep;have IHC:=ih x.items[j] (cnt_items x j hlt) H hT _ _ eba _ ebc eia _ eic (wr.alloc (itemO x.items[j] eba ebc eia eic)) r (d+1) hex.arg (hHr.alloc _) (by omega) (by omega);rw[show((d+1:Nat):Int)=(d:Int)+1 by omega]at IHC;have IHH:=Hh IHC;have hbr5:=hbr.alloc hbr.size (itemO x.items[j] eba ebc eia eic);have hB5:=hBr.alloc (itemO x.items[j] eba ebc eia eic);clear IHC q0 q1 q2 q3
       cases hq:leftP x.items[j] r (d+1) with
       | none =>
        rw[hq]at IHH hst;have E:Hid (leftP x c d=none):=by rw[Hid,leftP_eq,if_neg (by omega),if_neg (by simp[HG.out]),← hst.out]
        clear hq hst;go_wp2_with fail
        refine IHH.out.mono ?_
        rintro e w6 ⟨rfl,hb6⟩
        have hb7:=hbr5.trans (hb6.mono hbr5.size)
        simp only[leftI]
        go_wp2_with fail
        go_ret
        exact⟨by rw[E.out];rfl,hb7⟩
       | some r' =>
        rw[hq]at IHH hst;have hrr:=(left_spec _ _ _ _ hq).2.2;have hst':Hid (leftL (x.items.drop (j+1)) r' (d+1)=leftL x.items (c-1) (d+1)):=hst.out;clear hq hst;have hr0:(0:Int)≤(r':Int):=by omega
        have hrc':r'≤c:=by omega
        go_wp2_with fail
        refine IHH.out.mono ?_
        rintro e w6 ⟨rfl,hb6⟩
        have hb7:=hbr5.trans (hb6.mono hbr5.size);have hB7:=hB5.below hb6
        simp only[leftI]
        clear hbr hBr hbr5 hB5 hb6 IHH p0 p1 p2 p3 hrr hHr;go_wp2_with fail
        go_roundw
        case rel=>exact⟨j+1,r',by omega,hrc',by go_num,rfl,hst'.out,hb7,hB7⟩
        case measure=>simp[intOf];omega
      ·have hjl:j=x.items.length:=by omega
       subst hjl;have hall:leftL x.items (c-1) (d+1)=some r:=by rw[← HLR.out,List.drop_length,leftL]
       have HALL:=Hh hall;clear hall HLR
       have E:Hid (leftP x c d=some r):=by
        rw[Hid,leftP_eq,if_neg (by omega),if_neg (by simp[HG.out]),HALL.out]
        simp only
        rw[if_neg (by rintro⟨h5,_⟩;rw[h5]at b5;cases b5)]
       have c0:=hBr.cell 0 rfl;go_wp2_with fail
       refine wp_loop_rounds 1 ?_
       rw[rounds_succ];go_wp2_with fail
       go_ret
       exact⟨by rw[E.out];rfl,hbr⟩
   ·have bpos0:¬ (0:Int)<x.items.length:=by omega
    have HPOS:=Hh hpos;clear hpos;go_enter Tryz.func86,Tryz.ntmps86
    go_upto_region 22 with fail
    any_goals
     (have hbad:nodeR x d (c-1)=false:=by
       cases hq:nodeR x d (c-1) with
       | false=>rfl
       | true=>exact absurd ((nodeR_456 (by have:=HK.out;omega)).1 hq) (by have hn0:=HN0.out;have hone:=HONE.out;have hpos:=HPOS.out;have hk:=HK.out;omega)
      go_ret
      exact⟨by rw[left_none hbad];rfl,hb0⟩)
    all_goals
     have hgood:nodeR x d (c-1)=true:=(nodeR_456 (by have:=HK.out;omega)).2 ⟨by omega,by omega,fun h=>HONE.out,fun h=>by have:=HK.out;omega,fun h=>by have:=HK.out;omega,by omega⟩;have hi0:x.items.length=0:=by have hn0:=HN0.out;have hone:=HONE.out;have hpos:=HPOS.out;have hk:=HK.out;omega
     have hk:=HK.out;have E:Hid (leftP x c d=some (c-1)):=left_flat hc0 hgood hi0;have hli:¬ (0:Int)<x.items.length:=by omega
     have hl2:¬ (2:Int)<x.items.length:=by omega
     have HI:=Hh hi0;have HC:=Hh hgood;clear hi0 hk hgood;have c0:=hB.cell 0 rfl;have c3:=hB.cell 3 rfl;go_wp2_with fail
     refine wp_loop_rounds 1 ?_
     rw[rounds_succ];go_wp2_with fail
     refine wp_loop_rounds 1 ?_
     rw[rounds_succ];go_wp2_with fail
     go_ret
     exact⟨by rw[E.out,← HC1.out];rfl,hb0⟩
end Go.Proofs.YtgcjjhibdbafmaaGreatDoor
