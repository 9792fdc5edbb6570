/- squeezed. Walks: the program's reader of ite -/
import Derived.Test.YtnlinmoiakgedaaGreatDoorK20
import Derived.Test.YtnlinmoiakgedaaGreatDoorK16
set_option linter.unusedVariables false
set_option linter.unusedSimpArgs false
set_option maxRecDepth 100000
set_option maxHeartbeats 12800000
namespace Go.Proofs.YtnlinmoiakgedaaGreatDoor
open Go.RowKit
theorem jI {w wr:World}{H Hr:Snap}(_h:Grows w H wr Hr) {l:List Itm}{cs:List Value}(hc:ItemsC Hr cs l) (hm:l.length≤4096) :
  OwnI (wr.alloc (.cells cs.toArray 26)) wr.heap.size (.slice (some ⟨wr.heap.size,0,none⟩) l.length l.length) Hr l:=OwnI.lit hc _ (Nat.le_refl _) hm
theorem aL {w wr:World}{H Hr:Snap}(h:Grows w H wr Hr) {l:List Itm}{cs:List Value}(hc:ItemsC Hr cs l) (hm:l.length≤4096) :
  ∃ H',Grows w H (wr.alloc (.cells cs.toArray 26)) H'∧Hr.le H'∧IsRowI H' (some ⟨wr.heap.size,0,none⟩) l.length l:=by
 have hO:=jI h hc hm;have hG:=h.alloc (.cells cs.toArray 26);obtain⟨H',hl,hh,hf,hz,h1,h2,h3⟩:=hO.snap hG.holds (fun q hq=>by cases hq;exact h.holds.none_of_ge (Nat.le_refl _))
 refine⟨H',⟨hG.below,hG.le.trans hl,hh,fun b o hb=>?_⟩,hl,⟨h1,h2,h3⟩⟩
 rcases hf b o hb with h4 | h4
 ·exact hG.fresh b o h4
 ·simp at h4;exact .inr (by have:=h.size;omega)
theorem bR {p:List UInt8→Nat→PR}(hp:∀ b c q,p b c=.err q→q≠0):∀ (n:Nat) (b:List UInt8) (c:Nat) (last:Option (List UInt8)) (q:Nat),vr p n b c last=.err q→q≠0
 | 0,b,c,last,q,h=>by rw[vr]at h;cases h
 | n+1,b,c,last,q,h=>by
  rw[vr]at h
  split at h
  ·rename_i h1
   injection h with h
   subst h
   exact hp _ _ _ h1
  ·split at h
   ·rename_i h2
    injection h with h
    subst h
    unfold tB at h2
    repeat' split at h2
    all_goals first | (injection h2 with h2;omega) | cases h2
   ·split at h
    ·rename_i h3
     injection h with h
     subst h
     exact hp _ _ _ h3
    ·split at h
     ·rename_i h4
      injection h with h
      subst h
      exact bR hp n _ _ _ _ h4
     ·cases h
theorem bK {p:List UInt8→Nat→PR}(hp:∀ b c q,p b c=.err q→q≠0):∀ (n:Nat) (b:List UInt8) (c:Nat) (q:Nat),vS p n b c=.err q→q≠0
 | 0,b,c,q,h=>by rw[vS]at h;cases h
 | n+1,b,c,q,h=>by
  rw[vS]at h
  split at h
  ·rename_i h1
   injection h with h
   subst h
   exact hp _ _ _ h1
  ·split at h
   ·rename_i h4
    injection h with h
    subst h
    exact bK hp n _ _ _ h4
   ·cases h
theorem yJ:∀ (d:Nat) (b:List UInt8) (c q:Nat),zo d b c=.err q→q≠0:=by
 intro d
 induction d with
 | zero =>
  intro b c q h
  rw[zo.eq_def]at h
  simp only at h
  repeat' split at h
  all_goals first
   | (injection h with h;omega)
   | cases h
   | skip
  ·rename_i h1;have:=pK h1;omega
  ·rename_i h1;have:=kM h1;omega
 | succ d ih =>
  intro b c q h
  rw[zo.eq_def]at h
  simp only at h
  repeat' split at h
  all_goals first
   | (injection h with h;omega)
   | cases h
   | skip
  ·rename_i h1;have:=pK h1;omega
  ·rename_i h1;have:=kM h1;omega
  ·rename_i h1;exact ih _ _ _ h1
  ·rename_i h1;exact bR ih _ _ _ _ _ h1
  ·rename_i h1;exact bK ih _ _ _ _ h1
section
variable {d:Nat} {w:World} {H:Snap} {g:Nat} {A:Option Addr} {c:Nat} {l:List UInt8} {p cnt lv:Nat}
theorem Y7 (ih:gC d) (hTab:Tabs H) (hlv:lv+(d+1)=8) (hP:Psr 108 w g H A c l p cnt) (hc:cnt<256) {f n k:Nat}(hh:zj (l.drop p)=.ok (f,n,k)) (hk:f/32=6):Calls Tryz.prog 78 #[.pointer (some ⟨g,0,none⟩),.int .i64 (lv:Int)] w (ItemOut 108 w H g A c l p (zo (d+1) (l.drop p) cnt)):=by
 have zC:=hP.gt;have xg:=(Rdg.refl hP).alloc zr;have xC:=Blk.new w 26 #[.int .i64 0,.int .u64 0,.slice none 0 0,.slice none 0 0];have zQ:H w.heap.size=none:=hP.holds.none_of_ge (Nat.le_refl _);have c2:=xg.psr.blk.cell 2 rfl;have E0:=Hh (j8 d (l.drop p) cnt (by omega) hh hk);have S:(f:Int)/32=6:=by omega
 have dx:¬ ((8:Int)≤(lv:Int)):=by omega
 have KL:IntKind.i64.wrap ((lv:Int)+1)=(lv:Int)+1:=IntWalk.i64_in _ (by omega);have aw:(lv:Int)≤8:=by omega
 have xi:((cnt:Int)==256)=false:=by simp;omega
 have xv:((cnt:Int)=256)=False:=eq_false (by omega);have KC:IntKind.i64.wrap ((cnt:Int)+1)=(cnt:Int)+1:=IntWalk.i64_in _ (by omega);have HC:=Hh hc;clear hc;go_enter Tryz.func78,Tryz.ntmps78
 go_wp2_with (with_reducible refine zx ?_)
 refine zu rfl _ _ _ rfl rfl g 2 (.int .i64 ((cnt:Int)+1)) rfl rfl _ _ xg.psr.blk zE (by simp) rfl fun w2 yu yp=>?_
 have yv:Rdg 108 w H w2 H g A c l p (cnt+1):=xg.step yp yu hP.le (by have:=HC.out;omega);have xD:=xC.gr yp (by omega);have PH:=Hh (rb yv.psr);clear xg xC yu yp c2 KC xi xv;go_wp2_with fail
 refine PH.out.mono ?_
 intro e w3 hs
 rw[HeadSaid,hh]at hs;obtain⟨rfl,wO,yO⟩:=hs;have HS:=xY hh;have tA:p+k≤l.length:=by have:=HS.le;rw[List.length_drop]at this;have:=hP.le;omega
 have yF:Rdg 108 w H w3 H g A c l (p+k) (cnt+1):=yv.step yO wO tA (by have:=HC.out;omega);have xM:=xD.gr yO (by omega);have HF:=Hh HS;clear yv xD wO yO PH HS hh;have IT:=ih w3 H g A c l (p+k) (cnt+1) (lv+1) hTab (by omega) yF.psr;rw[show((lv+1:Nat):Int)=(lv:Int)+1 by omega]at IT;have ITH:=Hh IT;rw[List.drop_drop]at E0;clear IT;go_wp2_with fail
 refine ITH.out.mono ?_
 intro e w4 hs
 cases hp:zo d (l.drop (p+k)) (cnt+1) with
 | err q =>
  rw[hp,ItemOut]at hs;obtain⟨rfl,H4,p4,cnt4,qo⟩:=hs;have oA:((q:Int) != 0)=true:=by rw[bne_iff_ne];have:=yJ _ _ _ _ hp;omega
  have mA:((q:Int)=0)=False:=eq_false (by have:=yJ _ _ _ _ hp;omega);have E:Hid (zo (d+1) (l.drop p) cnt=.err q):=by rw[Hid,E0.out,hp]
  have xR:=yF.trans qo;have xG:=xM.rdg qo (by omega);have jj:=qo.hid zQ xM.lt;have hX:=Blk.new w4 26 #[.int .i64 0,.int .u64 0,.slice none 0 0,.slice none 0 0];have yl:=xR.alloc zr;have yh:=xG.alloc zr;have UQ:=Hh xR.psr.holds;have Z7:=Hh xG.lt;clear qo yF xM ITH hp E0 xR xG;have UR:w.heap.size≤w4.heap.size:=Nat.le_of_lt Z7.out;have X0:=(Holds.none_of_ge (w:=w4) (H:=H4) (UQ.out) (Nat.le_refl _))
  go_wp2_with (with_reducible refine zx ?_)
  refine stI hX fun w6 rW tF=>?_
  have zA:=yl.gb X0 UR zC tF;have yf:=yh.grown tF (by intro e;injection e with e;have:=Z7.out;omega);clear yl yh hX tF rW;go_wp2_with (with_reducible refine zx ?_)
  refine stI yf fun wz hTy zU=>?_
  have zP:=zA.gb jj (Nat.le_refl _) zC zU;go_wp2_with fail
  refine zv rfl rfl hTy rfl rfl zw rfl ?_
  exact ItemOut.err E.out rfl zP
 | ok x k' c' =>
  rw[hp,ItemOut]at hs;obtain⟨ja,jb,jc,jd,H4,rfl,qo,jG⟩:=hs;have E:Hid (zo (d+1) (l.drop p) cnt=.ok (.mk 6 n [] [x]) (k+k') c'):=by rw[Hid,E0.out,hp]
  have xR:=yF.trans qo;have xG:=xM.rdg qo (by omega);have jj:=qo.hid zQ xM.lt;have hX:=Blk.new w4 26 #[.int .i64 0,.int .u64 0,.slice none 0 0,.slice none 0 0];have yl:=xR.alloc zr;have yh:=xG.alloc zr;have UQ:=Hh xR.psr.holds;have Z7:=Hh xG.lt;clear qo yF xM ITH hp E0 xR xG;have UR:w.heap.size≤w4.heap.size:=Nat.le_of_lt Z7.out;have X0:=(Holds.none_of_ge (w:=w4) (H:=H4) (UQ.out) (Nat.le_refl _))
  go_wp2_with (with_reducible refine zx ?_)
  refine stI hX fun w6 rW tF=>?_
  have zA:=yl.gb X0 UR zC tF;have yf:=yh.grown tF (by intro e;injection e with e;have:=Z7.out;omega);have b0:=rW.cell 0 rfl;have b1:=rW.cell 1 rfl;have b2:=rW.cell 2 rfl;have b3:=rW.cell 3 rfl;obtain⟨H7,wP,XE,Lx⟩:=aL (Grows.refl zA.psr.holds) (ItemsC.one jG) (by simp);have yG:=zA.grown wP;have yL:=yf.alloc (.cells (zg x ja jb jc jd).toArray 26);have sa:=wP.none jj yf.lt;have wy:=Hh HF.out.n_lt;clear yl yh hX tF rW zA yf wP;go_wp2_with (with_reducible refine zx ?_)
  refine stI yL fun wz hTy zU=>?_
  have zP:=yG.gb sa (Nat.le_refl _) zC zU;go_wp2_with fail
  refine zv rfl rfl hTy rfl rfl zw rfl ?_
  exact ItemOut.ok E.out rfl (by rw[← Nat.add_assoc];exact zP) (Lx.item 6 (by omega) n wy.out)
end
def Th (b:List UInt8):Except Nat (List UInt8×Nat) :=
 match tg b with
 | .err e=>.error e
 | .ok x k _=>if x.kind≠2∨x.bytes.length<1∨64<x.bytes.length then .error 4 else .ok (x.bytes,k)
def d4 (m:Int) (su:List Int) (gx cn:List UInt8) (b:List UInt8):Except Nat First :=
 match Tj b with
 | .error e=>.error e
 | .ok ext=>.ok ⟨m,su,gx,cn,ext⟩
def d3 (m:Int) (su:List Int) (gx:List UInt8) (b:List UInt8):Except Nat First :=
 match aU b with
 | .error e=>.error e
 | .ok (c,k4)=>d4 m su gx c (b.drop k4)
def d2 (m:Int) (su:List Int) (b:List UInt8):Except Nat First :=
 match Th b with
 | .error e=>.error e
 | .ok (gx,k3)=>d3 m su gx (b.drop k3)
def d1 (m:Int) (b:List UInt8):Except Nat First :=
 match tg b with
 | .err e=>.error e
 | .ok y k2 _=>match WO y with
  | .error e=>.error e
  | .ok l=>d2 m l (b.drop k2)
structure Lie (α:Type) where
 k:Nat
 pos:0<k
 E:Snap→α→List Value→Prop
 len:∀ {H x c},E H x c→c.length=k
 one:∀ {H x c},E H x c→∀ u∈c,u.oneCell'=true
 mono:∀ {H K x c},H.le K→E H x c→E K x c
section
variable {α:Type} {L:Lie α}
def RowC (L:Lie α) (H:Snap):List Value→List α→Prop
 | cs,[]=>cs=[]
 | cs,x::l=>∃ c rest,cs=c++rest∧L.E H x c∧RowC L H rest l
theorem RowC.nil (L:Lie α) (H:Snap):RowC L H [] []:=by rw[RowC]
theorem RowC.len {H:Snap}:∀ {l:List α}{cs:List Value},RowC L H cs l→cs.length=l.length*L.k
 | [],cs,h=>by rw[RowC]at h;subst h;simp
 | x::l,cs,h=>by
  obtain⟨c,rest,rfl,hx,hr⟩:=h;rw[List.length_append,L.len hx,hr.len,List.length_cons,Nat.succ_mul,Nat.add_comm]
theorem RowC.mono {H K:Snap}(hl:H.le K):∀ {l:List α}{cs:List Value},RowC L H cs l→RowC L K cs l
 | [],cs,h=>h
 | x::l,cs,h=>by
  obtain⟨c,rest,e,hx,hr⟩:=h
  exact⟨c,rest,e,L.mono hl hx,hr.mono hl⟩
theorem RowC.one {H:Snap}{x:α}{c:List Value}(h:L.E H x c):RowC L H c [x]:=⟨c,[],by simp,h,RowC.nil L H⟩
theorem RowC.app {H:Snap}:∀ {l m:List α}{cs ds:List Value},RowC L H cs l→RowC L H ds m→RowC L H (cs++ds) (l++m)
 | [],m,cs,ds,h,hd=>by rw[RowC]at h;subst h;exact hd
 | x::l,m,cs,ds,h,hd=>by
  obtain⟨c,rest,rfl,hx,hr⟩:=h
  exact⟨c,rest++ds,by simp,hx,hr.app hd⟩
theorem RowC.oneCell {H:Snap}:∀ {l:List α}{cs:List Value},RowC L H cs l→∀ u∈cs,u.oneCell'=true
 | [],cs,h=>by rw[RowC]at h;subst h;simp
 | x::l,cs,h=>by
  obtain⟨c,rest,rfl,hx,hr⟩:=h
  intro u hu
  rw[List.mem_append]at hu
  rcases hu with hu | hu
  ·exact L.one hx u hu
  ·exact hr.oneCell u hu
theorem RowC.get {H:Snap}:∀ {l:List α}{cs:List Value},RowC L H cs l→∀ (j:Nat) (hj:j<l.length),∃ c,L.E H l[j] c∧∀ i v,c[i]? = some v→cs[j*L.k+i]? = some v
 | [],_,_,j,hj=>by simp at hj
 | x::l,cs,h,0,_=>by
  obtain⟨c,rest,rfl,hx,hr⟩:=h
  refine⟨c,hx,fun i v hi=>?_⟩
  rw[Nat.zero_mul,Nat.zero_add,List.getElem?_append_left (List.getElem?_eq_some_iff.1 hi).1]
  exact hi
 | x::l,cs,h,j+1,hj=>by
  obtain⟨c,rest,rfl,hx,hr⟩:=h;obtain⟨c',Uw,Pv⟩:=hr.get j (by simpa using hj)
  refine⟨c',by simpa using Uw,fun i v hi=>?_⟩
  have:=Pv i v hi;rw[List.getElem?_append_right (by rw[L.len hx,Nat.succ_mul];omega),L.len hx,show(j+1)*L.k+i-L.k=j*L.k+i by rw[Nat.succ_mul];omega]
  exact this
structure IsRow (L:Lie α) (H:Snap) (A:Option Addr) (c:Nat) (l:List α):Prop where
 le:l.length≤c
 max:c≤9223372036854775807
 row:0<l.length→∃ b off cs,A=some ⟨b,off,none⟩∧RowC L H cs l∧g9 H b off cs
theorem IsRow.at_ {H:Snap}{A:Option Addr}{c:Nat}{l:List α}(h:IsRow L H A c l) (h0:0<l.length):∃ b off,A=some ⟨b,off,none⟩∧∀ j (hj:j<l.length),∃ d,L.E H l[j] d∧∀ i v,d[i]? = some v→H.cell? ⟨b,off+(j*L.k+i),none⟩=some v:=by
 obtain⟨b,off,cs,e,h1,h2⟩:=h.row h0
 refine⟨b,off,e,fun j hj=>?_⟩
 obtain⟨d,hd,hi⟩:=h1.get j hj
 exact⟨d,hd,fun i v hv=>h2 _ _ (hi i v hv)⟩
def OwnX (L:Lie α) (t:TypeId) (w:World) (base:Nat) (v:Value) (H:Snap) (l:List α):Prop:=∃ cs,RowC L H cs l∧w.ownsRow base t L.k v l.length cs
variable {t:TypeId} {w w':World} {base:Nat} {v:Value} {H:Snap} {l:List α}
theorem OwnX.lt (h:OwnX L t w base v H l):∀ k,v.ownBlock=some k→base≤k∧k<w.heap.size:=by obtain⟨_,_,h⟩:=h;exact World.ownsRow.lt h
theorem OwnX.kept {row:Option Nat}(h:OwnX L t w base v H l) (hg:w.grownBy w' row) (wd:v.ownBlock=none∨v.ownBlock≠row):OwnX L t w' base v H l:=by
 obtain⟨cs,hc,h⟩:=h;exact⟨cs,hc,World.ownsRow.kept h hg wd⟩
theorem OwnX.below (h:OwnX L t w base v H l) (hb:Below w.heap.size w w'):OwnX L t w' base v H l:=by
 refine h.kept (vk hb none) ?_
 cases hv:v.ownBlock with
 | none=>exact .inl rfl
 | some g=>exact .inr (by simp)
theorem OwnX.alloc (h:OwnX L t w base v H l) (o:Obj):OwnX L t (w.alloc o) base v H l:=h.below (zi w o)
theorem OwnX.mono {K:Snap}(h:OwnX L t w base v H l) (hl:H.le K):OwnX L t w base v K l:=by obtain⟨cs,hc,h⟩:=h;exact⟨cs,hc.mono hl,h⟩
theorem OwnX.form (h:OwnX L t w base v H l):∃ A c,v=.slice A l.length c∧l.length≤c∧c≤9223372036854775807:=by
 obtain⟨cs,hc,h⟩:=h
 rcases h.2 with ⟨rfl,hz⟩ | ⟨g,cap,cur,rfl,_,_,hn,hm,_⟩
 ·exact⟨none,0,by rw[hz],by omega,by omega⟩
 ·exact⟨_,cap,rfl,hn,by simpa [maxLen] using hm⟩
theorem OwnX.snap {A:Option Addr}{m c:Nat}(h:OwnX L t w base (.slice A m c) H l) (hw:Holds w H) (hn:∀ g,A.map (·.block)=some g→H g=none) :
  ∃ H',H.le H'∧Holds w H'∧(∀ b o,H' b=some o→H b=some o∨A.map (·.block)=some b)∧m=l.length∧IsRow L H' A c l:=by
 obtain⟨cs,q9,h⟩:=h
 rcases h.2 with ⟨hv,hz⟩ | ⟨g,cap,cur,hv,_,hg,hc,hm,hcz,ht⟩
 ·cases hv
  exact⟨H,Snap.le.refl _,hw,fun _ _ h=>.inl h,hz.symm,⟨by omega,by omega,by omega⟩⟩
 ·cases hv
  have gc:H g=none:=hn g rfl
  refine⟨H.with g (.cells cur t),Snap.le_with gc,hw.with hg,fun b o hb=>?_,rfl,hc,by simpa [maxLen] using hm,fun _=>⟨g,0,cs,rfl,q9.mono (Snap.le_with gc),fun j v hj=>?_⟩⟩
  ·unfold Snap.with at hb
   split at hb
   ·subst b;exact .inr rfl
   ·exact .inl hb
  ·rw[← ht,List.getElem?_take]at hj
   split at hj
   ·simp[Snap.cell?,Snap.with]
    simpa using hj
   ·cases hj
end
def Kj:Lie Int where
 k:=1
 pos:=by omega
 E:=fun _ x c=>c=[.int .i64 x]
 len:=by rintro _ _ _ rfl;rfl
 one:=by rintro _ _ _ rfl;simp[Value.oneCell']
 mono:=fun _ h=>h
def ZP:Lie (List UInt8) where
 k:=1
 pos:=by omega
 E:=fun H x c=>∃ A cc,c=[.slice A x.length cc]∧IsBytes H A cc x
 len:=by rintro _ _ _ ⟨_,_,rfl,_⟩;rfl
 one:=by rintro _ _ _ ⟨_,_,rfl,_⟩;simp[Value.oneCell']
 mono:=by rintro H K x c hl ⟨A,cc,e,h⟩;exact⟨A,cc,e,h.mono hl⟩
theorem iE (x:Int):∃ n:Nat,Ending.returned (Value.int .u64 (IntKind.u64.wrap x))=.returned (.int .u64 (n:Int))∧n<18446744073709551616:=by
 refine⟨(IntKind.u64.wrap x).toNat, ?_, ?_⟩
 ·rw[Int.toNat_of_nonneg (by rw[IntKind.wrap_u64];omega)]
 ·rw[IntKind.wrap_u64];omega
theorem uH (op:BinOp) (a b:Int):∃ n:Nat,Ending.returned (Value.int .u64 (bits op .u64 a b))=.returned (.int .u64 (n:Int))∧n<18446744073709551616:=iE _
def pH (w:World) (e:Ending) (w':World):Prop:=(∃ n:Nat,e=.returned (.int .u64 (n:Int))∧n<18446744073709551616)∧w'=w
theorem dQ (v:Nat) (hv:v<18446744073709551616) (w:World) :
  Calls Tryz.prog 49 #[.int .u64 (v:Int),.int .i64 5,.int .i64 10] w (pH w):=by
 have A2:bits .and .u64 (v:Int) 1023=((v%1024:Nat):Int):=vA v 10 (by omega) (by omega);have hM:v%1024≤1023:=by omega
 generalize v%1024=M at *
 have hz:¬ ((0:Int)<bits .and .u64 (v:Int) 1023/2048):=by rw[A2];omega
 have HZ:=Hh hz;clear A2 hM hz;go_enter Tryz.func49,Tryz.ntmps49
 go_wp2_with fail
 ·go_ret;exact⟨uH ..,rfl⟩
 ·go_ret;exact⟨iE ..,rfl⟩
 ·go_loop [12] (fun v12=>∃ k:Nat,k≤10∧v12=.int .i64 (k:Int)) (fun v12=>10-(intOf v12).toNat)
  case atStart=>exact⟨0,by omega,rfl⟩
  case round =>
   obtain⟨k,hk,rfl⟩:=hrel
   rcases(by omega:k≤9∨k=10) with h | rfl
   ·have tG:(k:Int)+1≤10:=by omega
    have sE:(0:Int)≤(k:Int)+1:=by omega
    have nI:((k:Int)+1).toNat=k+1:=by omega
    go_wp2_with fail
    ·go_round
     case rel=>exact⟨k+1,by omega,by go_num⟩
     case measure=>simp[intOf];omega
    ·go_ret;exact⟨uH ..,rfl⟩
   ·have hz:=HZ.out;go_wp2_with fail
    go_ret;exact⟨uH ..,rfl⟩
 ·go_ret;exact⟨uH ..,rfl⟩
theorem dR (v:Nat) (hv:v<18446744073709551616) (w:World) :
  Calls Tryz.prog 49 #[.int .u64 (v:Int),.int .i64 8,.int .i64 23] w (pH w):=by
 have A2:bits .and .u64 (v:Int) 8388607=((v%8388608:Nat):Int):=vA v 23 (by omega) (by omega);have hM:v%8388608≤8388607:=by omega
 generalize v%8388608=M at *
 have hz:¬ ((0:Int)<bits .and .u64 (v:Int) 8388607/16777216):=by rw[A2];omega
 have HZ:=Hh hz;clear A2 hM hz;go_enter Tryz.func49,Tryz.ntmps49
 go_wp2_with fail
 ·go_ret;exact⟨uH ..,rfl⟩
 ·go_ret;exact⟨iE ..,rfl⟩
 ·go_loop [12] (fun v12=>∃ k:Nat,k≤23∧v12=.int .i64 (k:Int)) (fun v12=>23-(intOf v12).toNat)
  case atStart=>exact⟨0,by omega,rfl⟩
  case round =>
   obtain⟨k,hk,rfl⟩:=hrel
   rcases(by omega:k≤22∨k=23) with h | rfl
   ·have tG:(k:Int)+1≤23:=by omega
    have sE:(0:Int)≤(k:Int)+1:=by omega
    have nI:((k:Int)+1).toNat=k+1:=by omega
    go_wp2_with fail
    ·go_round
     case rel=>exact⟨k+1,by omega,by go_num⟩
     case measure=>simp[intOf];omega
    ·go_ret;exact⟨uH ..,rfl⟩
   ·have hz:=HZ.out;go_wp2_with fail
    go_ret;exact⟨uH ..,rfl⟩
 ·go_ret;exact⟨uH ..,rfl⟩
theorem xI (k:Int) (n:Nat) (bs:List UInt8) (l:List Itm) (h8:k≠8) (h7:k≠7):(zd (.mk k n bs l)).length≤9+bs.length+(zB l).length:=by
 rw[xf,if_neg (by simpa [Itm.kind] using h8),if_neg (by simp[Itm.kind,h7])];have:=(ss k.toNat (numP (.mk k n bs l))).2
 simp only[Itm.kind,Itm.bytes,Itm.items,List.length_append]
 omega
theorem Xq (k:Int) (hk:k=2∨k=3) (bs:List UInt8) (lv:Nat) (hv:k=3→Lib.validD bs=true):Good (.mk k 0 bs []) lv:=by
 refine Good.of ?_ (by simp only[Itm.items];rw[GoodL];trivial) (fun h=>by simp only[Itm.kind]at h;omega)
 rw[xZ,if_pos (by rw[z8];simp only[Itm.kind];omega)]
 rcases hk with rfl | rfl
 ·simp[yq,Itm.kind,Itm.n,Itm.items]
 ·simp[yq,Itm.kind,Itm.n,Itm.items,Itm.bytes,hv rfl]
theorem mQ:Modest zt:=by rw[Modest,ModestL];exact⟨by simp,by simp,trivial⟩
theorem IsRowI.two {H:Snap}{A:Option Addr}{c:Nat}{l:List Itm}(tw:l.length≤c) (hm:c≤9223372036854775807) (he:0<l.length→∃ b off,A=some ⟨b,off,none⟩∧IsElems H b off l):IsRowI H A c l:=⟨tw,hm,he⟩
def OA (ps:List Itm) (c:Int) (x:Itm):Prop :=
 (c=0∧∃ l,x=.mk 5 0 [] l∧yW x=true∧(zB l).length=(zB ps).length∧(ps.length=2→l=ps))∨
 (c≠0∧x=zt∧¬ (ps.length=2∧(∀ x∈ps,yW x=true)∧yW (.mk 5 0 [] ps)=true))
theorem BuildSaid.one {w w':World}{H:Snap}{ps:List Itm}{e:Ending}(h:BuildSaid w H ps e w'):∃ v c x,e=.returned (.tuple #[v,.int .i64 c])∧Gives w H x v w'∧OA ps c x:=by
 obtain⟨v,⟨l,h1,h2,h3,h4,h5⟩ | ⟨c,h1,h2,h3,h4⟩⟩:=h
 ·exact⟨v,0,_,h1,h2,.inl ⟨rfl,l,rfl,h3,h4,h5⟩⟩
 ·exact⟨v,c,_,h1,h3,.inr ⟨h2,rfl,h4⟩⟩
theorem IsRowI.src {H:Snap}{A:Option Addr}{c:Nat}{l:List Itm}(h:IsRowI H A c l):∃ cs,ItemsC H cs l∧Row H A cs:=by
 by_cases h0:0<l.length
 ·obtain⟨b,off,rfl,he⟩:=h.elems h0;obtain⟨cs,hc,hx⟩:=he.cells
  exact⟨cs,hc,fun _=>⟨b,off,rfl,hx⟩⟩
 ·have hl:l=[]:=List.length_eq_zero_iff.1 (by omega);subst hl
  exact⟨[],ItemsC.nil H,Row.nil _ _⟩
theorem va {H H':Snap}{A:Option Addr}(hf:∀ b o,H' b=some o→H b=some o∨A.map (·.block)=some b) {q:Nat}(h0:H q=none) (hA:A.map (·.block)=some q→False):H' q=none:=by
 cases h:H' q with
 | none=>rfl
 | some o =>
  rcases hf q o h with h1 | h1
  ·rw[h0]at h1;cases h1
  ·exact(hA h1).elim
theorem kU (op:BinOp) (a b:Int):∃ n:Nat,bits op .u64 a b=(n:Int)∧n<18446744073709551616:=by
 obtain⟨n,h1,h2⟩:=uH op a b;injection h1 with h1
 injection h1 with _ h1
 exact⟨n,h1,h2⟩
theorem fL (op:BinOp) (a b:Int) (w:World):Calls Tryz.prog 49 #[.int .u64 (bits op .u64 a b),.int .i64 5,.int .i64 10] w (pH w):=by
 obtain⟨n,h1,h2⟩:=kU op a b;rw[h1]
 exact dQ n h2 w
theorem fM (op:BinOp) (a b:Int) (w:World):Calls Tryz.prog 49 #[.int .u64 (bits op .u64 a b),.int .i64 8,.int .i64 23] w (pH w):=by
 obtain⟨n,h1,h2⟩:=kU op a b;rw[h1]
 exact dR n h2 w
theorem ct (op:BinOp) (a b:Int) (w:World):Calls Tryz.prog 50 #[.int .u64 (bits op .u64 a b)] w fun e w'=>(∃ bb:Bool,e=.returned (.bool bb))∧w=w':=by
 obtain⟨n,h1,h2⟩:=kU op a b;rw[h1]
 exact(sT n h2 w).mono fun e w' h=>⟨⟨_,h.1⟩,h.2⟩
def Td (w:World) (H:Snap) (g:Nat) (e:Ending) (w':World):Prop:=(∃ n:Nat,e=.returned (.int .u64 (n:Int))∧n<18446744073709551616)∧Dealt w H w' H g
theorem fh {H:Snap}{g:Nat}(w:World) (hD:DeckIn w g H) :
  Calls Tryz.prog 34 #[.pointer (some ⟨g,0,none⟩)] w (Td w H g):=by
 have NX:=Hh (yX w hD 1073741824 (by omega) (by omega));have zC:=hD.deck.lt;clear hD;go_enter Tryz.func34,Tryz.ntmps34
 go_wp2_with fail
 refine NX.out.mono ?_
 rintro e w1 ⟨r,rfl,hr,us⟩
 have K0:IntKind.u64.wrap (r:Int)=(r:Int):=IntWalk.u64_in _ (by omega);have N2:=Hh (yX w1 us.deck 5 (by omega) (by omega));clear NX;go_wp2_with fail
 refine N2.out.mono ?_
 rintro e w2 ⟨q,rfl,hq,yv⟩
 have hd:=us.trans yv;clear N2 us yv
 rcases(by omega:q=0∨q=1∨q=2∨q=3∨q=4) with rfl | rfl | rfl | rfl | rfl
 ·go_wp2_with (go_at_call 49;refine(fL _ _ _ _).mono ?_;rintro e w3 ⟨⟨n,rfl,hn⟩,rfl⟩)
  go_ret
  exact⟨⟨n,rfl,hn⟩,hd⟩
 ·go_wp2_with (go_at_call 49;refine(fM _ _ _ _).mono ?_;rintro e w3 ⟨⟨n,rfl,hn⟩,rfl⟩)
  go_ret
  exact⟨⟨n,rfl,hn⟩,hd⟩
 ·have hB:=Blk.new w2 22 #[.int .u64 9221120237041090560,.int .u64 9218868437227405312,.int .u64 18442240474082181120,.int .u64 9223372036854775808,.int .u64 0,.int .u64 1,.int .u64 4609434218613702656];have yv:=hd.alloc (.cells #[.int .u64 9221120237041090560,.int .u64 9218868437227405312,.int .u64 18442240474082181120,.int .u64 9223372036854775808,.int .u64 0,.int .u64 1,.int .u64 4609434218613702656] 22);have N3:=Hh (yX _ yv.deck 7 (by omega) (by omega));go_wp2_with fail
  refine N3.out.mono ?_
  rintro e w3 ⟨j,rfl,hj,yF⟩
  have wO:=hB.dealt yF (by have:=hd.size;omega);obtain⟨v,hc,hP⟩:=wO.pick jD (by kernel_rfl) j (by simp;omega);obtain⟨x,rfl,hx⟩:=qY hP;have zP:=yv.trans yF;have HX:=Hh hx;clear N3 hB wO hP yv yF hx;go_wp2_with fail
  go_ret
  exact⟨⟨x,rfl,HX.out⟩,zP⟩
 all_goals
  have N3:=Hh (yX w2 hd.deck 1073741824 (by omega) (by omega));go_wp2_with fail
  refine N3.out.mono ?_
  rintro e w3 ⟨j,rfl,hj,yF⟩
  have zP:=hd.trans yF;have K1:IntKind.u64.wrap (j:Int)=(j:Int):=IntWalk.u64_in _ (by omega);clear N3 hd yF;go_wp2_with (go_at_call 50;refine(ct _ _ _ _).mono ?_;rintro e w4 ⟨⟨bb,rfl⟩,rfl⟩;cases bb)
  all_goals go_ret
  ·exact⟨uH ..,zP⟩
  ·exact⟨⟨9221120237041090560,rfl,by omega⟩,zP⟩
theorem fi {H:Snap}(hT:Tabs H) {k n:Int}{ba:Option Addr}{bl bc:Nat}{ia:Option Addr}{il ic:Nat}{x:Itm}(hx:ItemA H k n ba bl bc ia il ic x) (w:World) (hH:Holds w H) :
  Calls Tryz.prog 33 #[.agg #[.int .i64 k,.int .u64 n,.slice ba bl bc,.slice ia il ic]] w fun e w'=>∃ v y,e=.returned v∧Gives w H y v w'∧(y=x∨y=zt):=by
 obtain⟨rfl,rfl,rfl,rfl,pY⟩:=hx.eqs_;have hB:=(Blk.new w 26 #[.int .i64 x.kind,.int .u64 x.n,.slice ba x.bytes.length bc,.slice ia x.items.length ic]).alloc zr;have Ss:=Blk.new (w.alloc (zW x ba bc ia ic)) 26 #[.int .i64 0,.int .u64 0,.slice none 0 0,.slice none 0 0]
 simp only[zV]at Ss
 have hG:=((Grows.refl hH).alloc (zW x ba bc ia ic)).alloc zr;have zQ:H (w.heap.size+1)=none:=hH.none_of_ge (by omega);have V:=Hh (rK hT pY.arg _ hG.holds)
 cases hv:yW x with
 | false =>
  rw[hv]at V;clear hv;go_enter Tryz.func33,Tryz.ntmps33
  go_wp2_with fail
  refine V.out.mono ?_
  rintro e w2 ⟨rfl,wg⟩
  have xD:=Ss.below wg;have yp:=hG.below_ wg;clear V hB Ss hG wg;go_wp2_with (with_reducible refine zx ?_)
  refine stI xD fun w3 xM hg3=>?_
  have yO:=yp.grownOwn zQ (by omega) hg3;go_wp2_with fail
  refine yN rfl rfl xM rfl rfl zw rfl ?_
  exact⟨_,zt,rfl,⟨none,0,none,0,H,rfl,yO,IsItem.plain _ 0 0 (by omega) (by omega)⟩,.inr rfl⟩
 | true =>
  rw[hv]at V;clear hv;go_enter Tryz.func33,Tryz.ntmps33
  go_wp2_with fail
  refine V.out.mono ?_
  rintro e w2 ⟨rfl,wg⟩
  have yu:=hB.below wg;have xD:=Ss.below wg;have yp:=hG.below_ wg;have c0:=yu.cell 0 rfl;have c1:=yu.cell 1 rfl;have c2:=yu.cell 2 rfl;have c3:=yu.cell 3 rfl;clear V hB Ss hG wg;go_wp2_with (with_reducible refine zx ?_)
  refine stI xD fun w3 xM hg3=>?_
  have yO:=yp.grownOwn zQ (by omega) hg3;go_wp2_with fail
  refine yN rfl rfl xM rfl rfl zw rfl ?_
  exact⟨_,x,rfl,⟨ba,bc,ia,ic,H,rfl,yO,pY⟩,.inl rfl⟩
def Te (w:World) (H:Snap) (g:Nat) (x:Itm) (v:Value) (w':World):Prop:=∃ ba bc ia ic H',v=xN x ba bc ia ic∧Dealt w H w' H' g∧IsItem H' ba bc ia ic x
def Tc (w:World) (H:Snap) (g B:Nat) (e:Ending) (w':World):Prop:=∃ v x,e=.returned v∧Te w H g x v w'∧Modest x∧(zd x).length≤B
def BI:Nat→Nat
 | 0=>39
 | d+1=>9+6*BI d
theorem jB:∀ d,39≤BI d
 | 0=>Nat.le_refl _
 | d+1=>by have:=jB d;rw[BI];omega
def kS (d:Nat):Prop:=∀ (w:World) (H:Snap) (g:Nat),Tabs H→DeckIn w g H→Calls Tryz.prog 13 #[.pointer (some ⟨g,0,none⟩),.int .i64 (d:Int)] w (Tc w H g (BI d))
theorem y9 (k:Int) (n:Nat) (l:List UInt8) (h:l.length≤1099511627776):Modest (.mk k n l []):=by rw[Modest,ModestL];exact⟨h,by simp,trivial⟩
theorem mM (n:Nat):(zd (.mk 7 n [] [])).length≤39:=by
 rw[xf]
 simp only[Itm.kind,Itm.n,Itm.bytes,Itm.items,zB,List.append_nil]
 rw[if_neg (by omega)]
 split
 ·simp
 ·have:=(ss (7:Int).toNat (numP (.mk 7 n [] []))).2
  omega
theorem jw (n:Nat):(zd (.mk 8 n [] [])).length≤39:=by
 rw[xf,if_pos (show(Itm.mk 8 n [] []).kind=8 from rfl)]
 rcases rY n with h | h | h <;> (simp only[Itm.n];omega)
theorem aH:kS 0:=by
 intro w H g hTab hD
 have eO:=Hh (jB 0);have zC:=hD.deck.lt;have Sc:=hD.alloc zr;have xg:=hD.grows ((Grows.refl hD.holds).alloc zr);have xC:=Blk.new w 26 #[.int .i64 0,.int .u64 0,.slice none 0 0,.slice none 0 0];have uy:H w.heap.size=none:=hD.holds.none_of_ge (Nat.le_refl _);have NX:=Hh (yX _ Sc 9 (by omega) (by omega));clear hD;go_enter Tryz.func13,Tryz.ntmps13
 go_wp2_with fail
 refine NX.out.mono ?_
 rintro e w1 ⟨r,rfl,hr,dv⟩
 have us:=xg.trans dv;have tE:=xC.dealt dv (by omega);clear NX xg dv xC Sc
 rcases(by omega:r=0∨r=1∨r=2∨r=3∨r=4∨r=5∨r=6∨r=7∨r=8) with rfl | rfl | rfl | rfl | rfl | rfl | rfl | rfl | rfl
 ·have NB:=Hh (ts w1 us.deck);go_wp2_with fail
  refine NB.out.mono ?_
  rintro e w2 ⟨m',rfl,pC,yv⟩
  have tM:=tE.dealt yv (by omega);have zP:=us.trans yv;have qJ:=yv.hid uy tE.lt;have n5:=Hh pC;clear NB us yv tE uy pC;go_wp2_with (with_reducible refine zx ?_)
  refine stI tM fun wz hTy zU=>?_
  have qM:=zP.gb qJ (Nat.le_refl _) zC zU;go_wp2_with fail
  refine yN rfl rfl hTy rfl rfl zw rfl ?_
  exact⟨_,.mk 0 m' [] [],rfl,⟨none,0,none,0,_,rfl,qM,IsItem.plain _ 0 m' (by omega) n5.out⟩,y9 _ _ _ (by simp),by have:=xI 0 m' [] [] (by omega) (by omega);have:=eO.out;simp[zB]at *;omega⟩
 ·have NB:=Hh (ts w1 us.deck);go_wp2_with fail
  refine NB.out.mono ?_
  rintro e w2 ⟨m',rfl,pC,yv⟩
  have tM:=tE.dealt yv (by omega);have zP:=us.trans yv;have qJ:=yv.hid uy tE.lt;have n5:=Hh pC;clear NB us yv tE uy pC;go_wp2_with (with_reducible refine zx ?_)
  refine stI tM fun wz hTy zU=>?_
  have qM:=zP.gb qJ (Nat.le_refl _) zC zU;go_wp2_with fail
  refine yN rfl rfl hTy rfl rfl zw rfl ?_
  exact⟨_,.mk 1 m' [] [],rfl,⟨none,0,none,0,_,rfl,qM,IsItem.plain _ 1 m' (by omega) n5.out⟩,y9 _ _ _ (by simp),by have:=xI 1 m' [] [] (by omega) (by omega);have:=eO.out;simp[zB]at *;omega⟩
 ·have NB:=Hh (kZ w1 us.deck 30 (by omega) (by omega));go_wp2_with fail
  refine NB.out.mono ?_
  rintro e w2 ⟨A,c,l,rfl,hl,H2,wg,yv⟩
  have xD:=tE.dealt yv (by omega);have tb:=yv.hid uy tE.lt;have lB:=us.trans yv;have RB:=Hh (tS (A:=A) (c:=c) (l:=l) rfl (by omega) w2 (Src.of_row wg.row yv.holds) yv.holds);have HL:=Hh hl;clear NB us yv tE uy hl wg;go_wp2_with fail
  refine RB.out.mono ?_
  rintro e w3 ⟨v3,rfl,ja,jb,jc,jd,H3,rfl,yO,XW⟩
  have tM:=xD.below yO.below;have qJ:=yO.none tb xD.lt;have zP:=lB.grown yO;clear xD tb lB yO RB;go_wp2_with (with_reducible refine zx ?_)
  refine stI tM fun wz hTy zU=>?_
  have qM:=zP.gb qJ (Nat.le_refl _) zC zU;go_wp2_with fail
  refine yN rfl rfl hTy rfl rfl zw rfl ?_
  exact⟨_,.mk 2 0 l [],rfl,⟨ja,jb,jc,jd,H3,rfl,qM,XW⟩,y9 _ _ _ (by have:=HL.out;omega),by have:=xI 2 0 l [] (by omega) (by omega);have:=eO.out;have:=HL.out;simp[zB]at *;omega⟩
 ·have NB:=Hh (bU w1 us.deck 8 (by omega) (by omega));go_wp2_with fail
  refine NB.out.mono ?_
  rintro e w2 ⟨s,rfl,hl,yv⟩
  have xD:=tE.dealt yv (by omega);have tb:=yv.hid uy tE.lt;have lB:=us.trans yv;have RB:=Hh (fw s (by omega) w2 yv.holds);have HL:=Hh hl;clear NB us yv tE uy hl;go_wp2_with fail
  refine RB.out.mono ?_
  rintro e w3 ⟨v3,rfl,ja,jb,jc,jd,H3,rfl,yO,XW⟩
  have tM:=xD.below yO.below;have qJ:=yO.none tb xD.lt;have zP:=lB.grown yO;have SM:Hid (s.data.toList.length=s.size):=by rw[Hid];first | rfl | simp
  obtain⟨XT,Ut⟩:∃ X,Itm.mk 3 0 s.data.toList []=X:=⟨_,rfl⟩
  rw[Ut]at XW⊢;have SU:=Hh Ut;clear xD tb lB yO RB Ut;go_wp2_with (with_reducible refine zx ?_)
  refine stI tM fun wz hTy zU=>?_
  have qM:=zP.gb qJ (Nat.le_refl _) zC zU;go_wp2_with fail
  refine yN rfl rfl hTy rfl rfl zw rfl ?_
  exact⟨_,XT,rfl,⟨ja,jb,jc,jd,H3,rfl,qM,XW⟩,by rw[← SU.out];exact y9 _ _ _ (by have:=HL.out;have:=SM.out;omega),by have:=xI 3 0 s.data.toList [] (by omega) (by omega);have:=eO.out;have:=HL.out;have:=SM.out;rw[← SU.out];simp[zB]at *;omega⟩
 ·have NB:=Hh (ts w1 us.deck);go_wp2_with fail
  refine NB.out.mono ?_
  rintro e w2 ⟨m',rfl,pC,yv⟩
  have tM:=tE.dealt yv (by omega);have zP:=us.trans yv;have qJ:=yv.hid uy tE.lt;have n5:=Hh pC;clear NB us yv tE uy pC;go_wp2_with (with_reducible refine zx ?_)
  refine stI tM fun wz hTy zU=>?_
  have qM:=zP.gb qJ (Nat.le_refl _) zC zU;go_wp2_with fail
  refine yN rfl rfl hTy rfl rfl zw rfl ?_
  exact⟨_,.mk 0 m' [] [],rfl,⟨none,0,none,0,_,rfl,qM,IsItem.plain _ 0 m' (by omega) n5.out⟩,y9 _ _ _ (by simp),by have:=xI 0 m' [] [] (by omega) (by omega);have:=eO.out;simp[zB]at *;omega⟩
 ·have NB:=Hh (ts w1 us.deck);go_wp2_with fail
  refine NB.out.mono ?_
  rintro e w2 ⟨m',rfl,pC,yv⟩
  have tM:=tE.dealt yv (by omega);have zP:=us.trans yv;have qJ:=yv.hid uy tE.lt;have n5:=Hh pC;clear NB us yv tE uy pC;go_wp2_with (with_reducible refine zx ?_)
  refine stI tM fun wz hTy zU=>?_
  have qM:=zP.gb qJ (Nat.le_refl _) zC zU;go_wp2_with fail
  refine yN rfl rfl hTy rfl rfl zw rfl ?_
  exact⟨_,.mk 0 m' [] [],rfl,⟨none,0,none,0,_,rfl,qM,IsItem.plain _ 0 m' (by omega) n5.out⟩,y9 _ _ _ (by simp),by have:=xI 0 m' [] [] (by omega) (by omega);have:=eO.out;simp[zB]at *;omega⟩
 ·have NB:=Hh (ts w1 us.deck);go_wp2_with fail
  refine NB.out.mono ?_
  rintro e w2 ⟨m',rfl,pC,yv⟩
  have tM:=tE.dealt yv (by omega);have zP:=us.trans yv;have qJ:=yv.hid uy tE.lt;have n5:=Hh pC;clear NB us yv tE uy pC;go_wp2_with (with_reducible refine zx ?_)
  refine stI tM fun wz hTy zU=>?_
  have qM:=zP.gb qJ (Nat.le_refl _) zC zU;go_wp2_with fail
  refine yN rfl rfl hTy rfl rfl zw rfl ?_
  exact⟨_,.mk 0 m' [] [],rfl,⟨none,0,none,0,_,rfl,qM,IsItem.plain _ 0 m' (by omega) n5.out⟩,y9 _ _ _ (by simp),by have:=xI 0 m' [] [] (by omega) (by omega);have:=eO.out;simp[zB]at *;omega⟩
 ·have hB:=Blk.new w1 22 #[.int .u64 20,.int .u64 21,.int .u64 22,.int .u64 23,.int .u64 0,.int .u64 19,.int .u64 32,.int .u64 255];have yv:=us.alloc (.cells #[.int .u64 20,.int .u64 21,.int .u64 22,.int .u64 23,.int .u64 0,.int .u64 19,.int .u64 32,.int .u64 255] 22);have xD:=tE.alloc (.cells #[.int .u64 20,.int .u64 21,.int .u64 22,.int .u64 23,.int .u64 0,.int .u64 19,.int .u64 32,.int .u64 255] 22);have NB:=Hh (yX _ yv.deck 8 (by omega) (by omega));go_wp2_with fail
  refine NB.out.mono ?_
  rintro e w3 ⟨j,rfl,hj,yF⟩
  have wO:=hB.dealt yF (by have:=us.size;omega);obtain⟨v,hc,hP⟩:=wO.pick jD (by kernel_rfl) j (by simp;omega);obtain⟨x,rfl,hx⟩:=qY hP;have tM:=xD.dealt yF (by omega);have qJ:=yF.hid uy xD.lt;have zP:=yv.trans yF;have n5:=Hh hx;clear NB hB wO hP us yv yF hx tE xD uy;go_wp2_with (with_reducible refine zx ?_)
  refine stI tM fun wz hTy zU=>?_
  have qM:=zP.gb qJ (Nat.le_refl _) zC zU;go_wp2_with fail
  refine yN rfl rfl hTy rfl rfl zw rfl ?_
  exact⟨_,.mk 7 x [] [],rfl,⟨none,0,none,0,_,rfl,qM,IsItem.plain _ 7 x (by omega) n5.out⟩,y9 _ _ _ (by simp),Nat.le_trans (mM x) eO.out⟩
 ·have NB:=Hh (fh w1 us.deck);go_wp2_with fail
  refine NB.out.mono ?_
  rintro e w2 ⟨⟨m',rfl,pC⟩,yv⟩
  have tM:=tE.dealt yv (by omega);have zP:=us.trans yv;have qJ:=yv.hid uy tE.lt;have n5:=Hh pC;clear NB us yv tE uy pC;go_wp2_with (with_reducible refine zx ?_)
  refine stI tM fun wz hTy zU=>?_
  have qM:=zP.gb qJ (Nat.le_refl _) zC zU;go_wp2_with fail
  refine yN rfl rfl hTy rfl rfl zw rfl ?_
  exact⟨_,.mk 8 m' [] [],rfl,⟨none,0,none,0,_,rfl,qM,IsItem.plain _ 8 m' (by omega) n5.out⟩,y9 _ _ _ (by simp),Nat.le_trans (jw m') eO.out⟩
theorem ip:(zd zt).length≤39:=by
 have:=xI 0 0 [] [] (by omega) (by omega);show(zd (.mk 0 0 [] [])).length≤39
 simp[zB]at this
 omega
theorem oE {B:Nat}:∀ {l:List Itm},(∀ x∈l,(zd x).length≤B)→(zB l).length≤l.length*B
 | [],_=>by simp[zB]
 | x::l,h=>by
  have h1:=h x (by simp);have h2:=oE (l:=l) fun y hy=>h y (by simp[hy])
  rw[zB,List.length_append,List.length_cons,Nat.succ_mul]
  omega
theorem uZ {wr:World}{Hr:Snap}(hH:Holds wr Hr) {r0 r:Option Nat}(h0:∀ q,r0=some q→Hr q=none) (h:At0 wr r0 r):∀ q,r=some q→Hr q=none:=fun q hq=>by
 rcases h with h | ⟨g,h1,h2⟩
 ·exact h0 q (by rw[← h,hq])
 ·rw[hq]at h1;injection h1 with h1;subst h1;exact hH.none_of_ge h2
theorem Dealt.snap {w w':World}{H H' H'':Snap}{g B:Nat}{A:Option Addr}(h:Dealt w H w' H' g) (hl:H'.le H'') (hh:Holds w' H'') (hf:∀ b o,H'' b=some o→H' b=some o∨A.map (·.block)=some b)
  (hA:∀ q,A.map (·.block)=some q→B≤q) (hB:w.heap.size≤B) (hg:g<w.heap.size):Dealt w H w' H'' g:=by
 refine⟨⟨h.grows.grown,h.grows.le.trans hl,hh,fun b o hb=>?_⟩,h.deck.deck.mono hl,hh,va hf h.deck.apart (fun e=>by have:=hA _ e;omega)⟩
 rcases hf b o hb with h1 | h1
 ·exact h.grows.fresh b o h1
 ·exact .inr (by have:=hA _ h1;omega)
theorem aG (m:Nat) (hm:m≤8) (ih:kS m):kS (m+1):=by
 intro w H g hTab hD
 have eO:=Hh (jB (m+1));have zC:=hD.deck.lt;have Sc:=hD.alloc zr;have xg:=hD.grows ((Grows.refl hD.holds).alloc zr);have xC:=Blk.new w 26 #[.int .i64 0,.int .u64 0,.slice none 0 0,.slice none 0 0];have uy:H w.heap.size=none:=hD.holds.none_of_ge (Nat.le_refl _);have NX:=Hh (yX _ Sc 9 (by omega) (by omega));clear hD;have rn:((m+1:Nat):Int)=(m:Int)+1:=by omega
 rw[rn];have b0:(((m:Int)+1)==0)=false:=by rw[beq_eq_false_iff_ne];omega
 have p0:((m:Int)+1=0)=False:=eq_false (by omega);have KF:IntKind.i64.wrap ((m:Int)+1-1)=(m:Int):=by rw[show(m:Int)+1-1=(m:Int) by omega];exact IntWalk.i64_in _ (by omega)
 have o3:IntKind.i64.wrap (m:Int)=(m:Int):=IntWalk.i64_in _ (by omega);clear rn hm;go_enter Tryz.func13,Tryz.ntmps13
 go_wp2_with fail
 refine NX.out.mono ?_
 rintro e w1 ⟨r,rfl,hr,dv⟩
 have us:=xg.trans dv;have tE:=xC.dealt dv (by omega);clear NX xg dv xC Sc
 rcases(by omega:r=0∨r=1∨r=2∨r=3∨r=4∨r=5∨r=6∨r=7∨r=8) with rfl | rfl | rfl | rfl | rfl | rfl | rfl | rfl | rfl
 ·have NB:=Hh (ts w1 us.deck);go_wp2_with fail
  refine NB.out.mono ?_
  rintro e w2 ⟨m',rfl,pC,yv⟩
  have tM:=tE.dealt yv (by omega);have zP:=us.trans yv;have qJ:=yv.hid uy tE.lt;have n5:=Hh pC;clear NB us yv tE uy pC;go_wp2_with (with_reducible refine zx ?_)
  refine stI tM fun wz hTy zU=>?_
  have qM:=zP.gb qJ (Nat.le_refl _) zC zU;go_wp2_with fail
  refine yN rfl rfl hTy rfl rfl zw rfl ?_
  exact⟨_,.mk 0 m' [] [],rfl,⟨none,0,none,0,_,rfl,qM,IsItem.plain _ 0 m' (by omega) n5.out⟩,y9 _ _ _ (by simp),by have:=xI 0 m' [] [] (by omega) (by omega);have:=eO.out;simp[zB]at *;omega⟩
 ·have NB:=Hh (ts w1 us.deck);go_wp2_with fail
  refine NB.out.mono ?_
  rintro e w2 ⟨m',rfl,pC,yv⟩
  have tM:=tE.dealt yv (by omega);have zP:=us.trans yv;have qJ:=yv.hid uy tE.lt;have n5:=Hh pC;clear NB us yv tE uy pC;go_wp2_with (with_reducible refine zx ?_)
  refine stI tM fun wz hTy zU=>?_
  have qM:=zP.gb qJ (Nat.le_refl _) zC zU;go_wp2_with fail
  refine yN rfl rfl hTy rfl rfl zw rfl ?_
  exact⟨_,.mk 1 m' [] [],rfl,⟨none,0,none,0,_,rfl,qM,IsItem.plain _ 1 m' (by omega) n5.out⟩,y9 _ _ _ (by simp),by have:=xI 1 m' [] [] (by omega) (by omega);have:=eO.out;simp[zB]at *;omega⟩
 ·have NB:=Hh (kZ w1 us.deck 30 (by omega) (by omega));go_wp2_with fail
  refine NB.out.mono ?_
  rintro e w2 ⟨A,c,l,rfl,hl,H2,wg,yv⟩
  have xD:=tE.dealt yv (by omega);have tb:=yv.hid uy tE.lt;have lB:=us.trans yv;have RB:=Hh (tS (A:=A) (c:=c) (l:=l) rfl (by omega) w2 (Src.of_row wg.row yv.holds) yv.holds);have HL:=Hh hl;clear NB us yv tE uy hl wg;go_wp2_with fail
  refine RB.out.mono ?_
  rintro e w3 ⟨v3,rfl,ja,jb,jc,jd,H3,rfl,yO,XW⟩
  have tM:=xD.below yO.below;have qJ:=yO.none tb xD.lt;have zP:=lB.grown yO;clear xD tb lB yO RB;go_wp2_with (with_reducible refine zx ?_)
  refine stI tM fun wz hTy zU=>?_
  have qM:=zP.gb qJ (Nat.le_refl _) zC zU;go_wp2_with fail
  refine yN rfl rfl hTy rfl rfl zw rfl ?_
  exact⟨_,.mk 2 0 l [],rfl,⟨ja,jb,jc,jd,H3,rfl,qM,XW⟩,y9 _ _ _ (by have:=HL.out;omega),by have:=xI 2 0 l [] (by omega) (by omega);have:=eO.out;have:=HL.out;simp[zB]at *;omega⟩
 ·have NB:=Hh (bU w1 us.deck 8 (by omega) (by omega));go_wp2_with fail
  refine NB.out.mono ?_
  rintro e w2 ⟨s,rfl,hl,yv⟩
  have xD:=tE.dealt yv (by omega);have tb:=yv.hid uy tE.lt;have lB:=us.trans yv;have RB:=Hh (fw s (by omega) w2 yv.holds);have HL:=Hh hl;clear NB us yv tE uy hl;go_wp2_with fail
  refine RB.out.mono ?_
  rintro e w3 ⟨v3,rfl,ja,jb,jc,jd,H3,rfl,yO,XW⟩
  have tM:=xD.below yO.below;have qJ:=yO.none tb xD.lt;have zP:=lB.grown yO;have SM:Hid (s.data.toList.length=s.size):=by rw[Hid];first | rfl | simp
  obtain⟨XT,Ut⟩:∃ X,Itm.mk 3 0 s.data.toList []=X:=⟨_,rfl⟩
  rw[Ut]at XW⊢;have SU:=Hh Ut;clear xD tb lB yO RB Ut;go_wp2_with (with_reducible refine zx ?_)
  refine stI tM fun wz hTy zU=>?_
  have qM:=zP.gb qJ (Nat.le_refl _) zC zU;go_wp2_with fail
  refine yN rfl rfl hTy rfl rfl zw rfl ?_
  exact⟨_,XT,rfl,⟨ja,jb,jc,jd,H3,rfl,qM,XW⟩,by rw[← SU.out];exact y9 _ _ _ (by have:=HL.out;have:=SM.out;omega),by have:=xI 3 0 s.data.toList [] (by omega) (by omega);have:=eO.out;have:=HL.out;have:=SM.out;rw[← SU.out];simp[zB]at *;omega⟩
 ·have NB:=Hh (yX w1 us.deck 4 (by omega) (by omega));go_wp2_with fail
  refine NB.out.mono ?_
  rintro e w2 ⟨n0,rfl,UY,yv⟩
  have xD:=tE.dealt yv (by omega);have tb:=yv.hid uy tE.lt;have yF:=us.trans yv;have rl:=OwnI.nil w2 (w.heap.size+1) H;clear NB us yv tE uy;go_wp2_with fail
  go_loopw [6,7] (fun v6 v7 wr=>∃ (kk:Nat) (Hr:Snap) (VA:Option Addr) (vc vn:Nat) (L:List Itm),v7=.int .i64 (kk:Int)∧v6=.slice VA vn vc∧vn=L.length∧Dealt w H wr Hr g∧OwnI wr (w.heap.size+1) (.slice VA vn vc) Hr L∧(∀ z∈L,Modest z∧(zd z).length≤BI m)∧L.length+1*kk≤3∧  Blk wr w.heap.size 26 #[.int .i64 0,.int .u64 0,.slice none 0 0,.slice none 0 0]∧Hr w.heap.size=none∧(∀ q,(Value.slice VA vn vc).ownBlock=some q→Hr q=none)) (fun _ v7 _=>(intOf v7).toNat)
  case atStart=>exact⟨n0,H,_,_,_,[],rfl,rfl,rfl,yF,rl,by simp,by simp;omega,xD,tb,by intro q hq;simp[Value.ownBlock]at hq⟩
  case round =>
   clear xD tb yF rl UY;obtain⟨kk,Hr,VA,vc,vn,L,rfl,rfl,rfl,vy,ww,Sm,VX,vf,sk,tn⟩:=hrel;have qz:=Hh (And.intro Sm VX);clear Sm VX
   by_cases yi:(0:Int)<(kk:Int)
   ·skip
    have IT:=Hh (ih wr Hr g (hTab.mono vy.le) vy.deck);go_wp2_with fail
    refine IT.out.mono ?_
    rintro e w4 ⟨v4,y,rfl,⟨ja,jb,jc,jd,H4,rfl,xR,jG⟩,gd,lq⟩
    have eT:=((ww.dealt xR (by omega)).mono xR.le).alloc (.cells (zg y ja jb jc jd).toArray 26);have jj:∀ q,(Value.slice VA L.length vc).ownBlock=some q→H4 q=none:=fun q hq=>xR.hid (tn q hq) (ww.lt q hq).2
    have xG:=(vf.dealt xR (by omega)).alloc (.cells (zg y ja jb jc jd).toArray 26);have jR:=xR.hid sk vf.lt;have yl:=(vy.trans xR).alloc (.cells (zg y ja jb jc jd).toArray 26);have HY:=Hh (And.intro gd lq);clear IT xR vy ww vf tn sk gd lq;go_wp2_with (at_builtin;refine ye ?_)
    refine yw rfl (.tmp 73) (.tmp 78) rfl (w.heap.size+1) (.slice VA L.length vc) H4 _ rfl eT _ 1 _ (zg y ja jb jc jd) [y] rfl rfl (ItemsC.one jG) (Src.new _ _ _ _ rfl _ rfl) (by have:=qz.out.2;simp;omega) (by have:=xG.lt;simp only[zV]at this⊢;omega) fun v' w7 xK hg7 hat7=>?_
    obtain⟨VA',vc',rfl,_⟩:=xK.form;have yL:=xG.grown hg7 (fun e=>by have:=(eT.lt _ e).1;omega);have sa:=uZ yl.holds jj hat7;have yG:=yl.grownRow jj (fun q hq=>by have:=(eT.lt q hq).1;omega) zC hg7;obtain⟨L',sV⟩:∃ L',L++[y]=L':=⟨_,rfl⟩
    rw[sV]at xK sa⊢
    have lj:Hid ((∀ z∈L',Modest z∧(zd z).length≤BI m)∧L'.length=L.length+1):=by
     rw[Hid,← sV]
     refine⟨fun z hz=>?_,by simp⟩
     rw[List.mem_append]at hz
     rcases hz with hz | hz
     ·exact qz.out.1 z hz
     ·rw[List.mem_singleton.1 hz];exact HY.out
    clear sV eT jj xG yl hg7 hat7 jG;have sE:IntKind.i64.wrap ((kk:Int)-1)=(kk:Int)-1:=IntWalk.i64_in _ (by have:=qz.out.2;omega);go_wp2_with fail
    go_roundw
    case rel=>exact⟨kk-1,_,VA',vc',_,L',by rw[show((kk-1:Nat):Int)=(kk:Int)-1 by omega],rfl,rfl,yG,xK,lj.out.1,by have:=lj.out.2;have:=qz.out.2;omega,yL,jR,sa⟩
    case measure=>simp[intOf];omega
   ·skip
    obtain⟨H5,mH,lP,vT,VC,sz,t8,sL⟩:=ww.snap vy.holds (fun q hq=>tn q (vJ hq));have yQ:∀ q,VA.map (·.block)=some q→w.heap.size+1≤q:=fun q hq=>(ww.lt q (vJ hq)).1
    have gf:H5 w.heap.size=none:=va vT sk (fun e=>by have:=yQ _ e;omega);have zA:Dealt w H wr H5 g:=vy.snap (B:=w.heap.size+1) mH lP vT yQ (by omega) zC;obtain⟨x7,lX⟩:∃ x,Itm.mk 4 0 [] L=x:=⟨_,rfl⟩
    have ZX:ItemA H5 4 0 none 0 0 VA L.length vc x7:=by
     refine⟨by rw[← lX];rfl,by rw[← lX];rfl,by rw[← lX];rfl,by rw[← lX];rfl, ?_⟩
     rw[← lX]
     exact IsRowI.item ⟨sz,t8,sL⟩ 4 (by omega) 0 (by omega)
    have WH:=Hh (fi (hTab.mono zA.le) ZX _ zA.holds)
    have Wx:=Hh (show Modest x7∧(zd x7).length≤9+6*BI m by
     rw[← lX]
     refine⟨by rw[Modest];exact⟨by simp,by have:=qz.out.2;omega,ModestL.of fun z hz=>(qz.out.1 z hz).1⟩, ?_⟩
     have h1:=xI 4 0 [] L (by omega) (by omega);have h2:=oE (fun z hz=>(qz.out.1 z hz).2);have h3:L.length*BI m≤6*BI m:=Nat.mul_le_mul_right _ (by have:=qz.out.2;omega)
     simp only[List.length_nil]at h1
     omega)
    clear ww vT sL ZX lX lP mH sk tn yQ vy;go_wp2_with fail
    refine WH.out.mono ?_
    rintro e w8 ⟨v8,y8,rfl,⟨qa,qb,qc,qd,H8,rfl,ga,XX⟩,hy8⟩
    have tM:=vf.below ga.below;have qJ:=ga.none gf vf.lt;have zP:=zA.grown ga;have HY:=Hh hy8;clear WH vf ga zA gf hy8;go_wp2_with (with_reducible refine zx ?_)
    refine stI tM fun wz hTy zU=>?_
    have qM:=zP.gb qJ (Nat.le_refl _) zC zU;go_wp2_with fail
    refine yN rfl rfl hTy rfl rfl zw rfl ?_
    refine⟨_,y8,rfl,⟨qa,qb,qc,qd,H8,rfl,qM,XX⟩, ?_⟩
    rcases HY.out with rfl | rfl
    ·exact⟨Wx.out.1,by have:=Wx.out.2;rw[BI];omega⟩
    ·exact⟨mQ,Nat.le_trans ip (jB _)⟩
 ·have NB:=Hh (yX w1 us.deck 4 (by omega) (by omega));go_wp2_with fail
  refine NB.out.mono ?_
  rintro e w2 ⟨n0,rfl,UY,yv⟩
  have xD:=tE.dealt yv (by omega);have tb:=yv.hid uy tE.lt;have yF:=us.trans yv;have rl:=OwnI.nil w2 (w.heap.size+1) H;clear NB us yv tE uy;go_wp2_with fail
  go_loopw [6,7] (fun v6 v7 wr=>∃ (kk:Nat) (Hr:Snap) (VA:Option Addr) (vc vn:Nat) (L:List Itm),v7=.int .i64 (kk:Int)∧v6=.slice VA vn vc∧vn=L.length∧Dealt w H wr Hr g∧OwnI wr (w.heap.size+1) (.slice VA vn vc) Hr L∧(∀ z∈L,Modest z∧(zd z).length≤BI m)∧L.length+2*kk≤6∧  Blk wr w.heap.size 26 #[.int .i64 0,.int .u64 0,.slice none 0 0,.slice none 0 0]∧Hr w.heap.size=none∧(∀ q,(Value.slice VA vn vc).ownBlock=some q→Hr q=none)) (fun _ v7 _=>(intOf v7).toNat)
  case atStart=>exact⟨n0,H,_,_,_,[],rfl,rfl,rfl,yF,rl,by simp,by simp;omega,xD,tb,by intro q hq;simp[Value.ownBlock]at hq⟩
  case round =>
   clear xD tb yF rl UY;obtain⟨kk,Hr,VA,vc,vn,L,rfl,rfl,rfl,vy,ww,Sm,VX,vf,sk,tn⟩:=hrel;have qz:=Hh (And.intro Sm VX);clear Sm VX
   by_cases yi:(0:Int)<(kk:Int)
   ·skip
    have IT:=Hh (ih wr Hr g (hTab.mono vy.le) vy.deck);go_wp2_with fail
    refine IT.out.mono ?_
    rintro e w4 ⟨v4,y,rfl,⟨ja,jb,jc,jd,H4,rfl,xR,jG⟩,gd,lq⟩
    have eT:=((ww.dealt xR (by omega)).mono xR.le).alloc (.cells (zg y ja jb jc jd).toArray 26);have jj:∀ q,(Value.slice VA L.length vc).ownBlock=some q→H4 q=none:=fun q hq=>xR.hid (tn q hq) (ww.lt q hq).2
    have xG:=(vf.dealt xR (by omega)).alloc (.cells (zg y ja jb jc jd).toArray 26);have jR:=xR.hid sk vf.lt;have yl:=(vy.trans xR).alloc (.cells (zg y ja jb jc jd).toArray 26);have HY:=Hh (And.intro gd lq);clear IT xR vy ww vf tn sk gd lq;go_wp2_with (at_builtin;refine ye ?_)
    refine yw rfl (.tmp 73) (.tmp 78) rfl (w.heap.size+1) (.slice VA L.length vc) H4 _ rfl eT _ 1 _ (zg y ja jb jc jd) [y] rfl rfl (ItemsC.one jG) (Src.new _ _ _ _ rfl _ rfl) (by have:=qz.out.2;simp;omega) (by have:=xG.lt;simp only[zV]at this⊢;omega) fun v' w7 xK hg7 hat7=>?_
    obtain⟨VA',vc',rfl,_⟩:=xK.form;have yL:=xG.grown hg7 (fun e=>by have:=(eT.lt _ e).1;omega);have sa:=uZ yl.holds jj hat7;have yG:=yl.grownRow jj (fun q hq=>by have:=(eT.lt q hq).1;omega) zC hg7;obtain⟨L',sV⟩:∃ L',L++[y]=L':=⟨_,rfl⟩
    rw[sV]at xK sa⊢
    have lj:Hid ((∀ z∈L',Modest z∧(zd z).length≤BI m)∧L'.length=L.length+1):=by
     rw[Hid,← sV]
     refine⟨fun z hz=>?_,by simp⟩
     rw[List.mem_append]at hz
     rcases hz with hz | hz
     ·exact qz.out.1 z hz
     ·rw[List.mem_singleton.1 hz];exact HY.out
    clear sV eT jj xG yl hg7 hat7 jG;have RC:Hid ((∀ z∈L',Modest z∧(zd z).length≤BI m)∧L'.length+1+2*(kk-1)≤6):=⟨lj.out.1,by have:=lj.out.2;have:=qz.out.2;omega⟩
    clear qz lj;obtain⟨wr2,Og⟩:∃ x,w7=x:=⟨_,rfl⟩
    subst Og;obtain⟨qz,vy,ww,vf,sk,tn⟩:=And.intro RC (And.intro yG (And.intro xK (And.intro yL (And.intro jR sa))));clear RC yG xK yL jR sa HY;have IT:=Hh (ih w7 H4 g (hTab.mono vy.le) vy.deck);go_wp2_with fail
    refine IT.out.mono ?_
    rintro e w14 ⟨v4,z',rfl,⟨ja,jb,jc,jd,QG,rfl,xR,jG⟩,gd,lq⟩
    have eT:=((ww.dealt xR (by omega)).mono xR.le).alloc (.cells (zg z' ja jb jc jd).toArray 26);have jj:∀ q,(Value.slice VA' L'.length vc').ownBlock=some q→QG q=none:=fun q hq=>xR.hid (tn q hq) (ww.lt q hq).2
    have xG:=(vf.dealt xR (by omega)).alloc (.cells (zg z' ja jb jc jd).toArray 26);have jR:=xR.hid sk vf.lt;have yl:=(vy.trans xR).alloc (.cells (zg z' ja jb jc jd).toArray 26);have HY:=Hh (And.intro gd lq);clear IT xR vy ww vf tn sk gd lq;go_wp2_with (at_builtin;refine ye ?_)
    refine yw rfl (.tmp 82) (.tmp 87) rfl (w.heap.size+1) (.slice VA' L'.length vc') QG _ rfl eT _ 1 _ (zg z' ja jb jc jd) [z'] rfl rfl (ItemsC.one jG) (Src.new _ _ _ _ rfl _ rfl) (by have:=qz.out.2;simp;omega) (by have:=xG.lt;simp only[zV]at this⊢;omega) fun v' w17 xK hg7 hat7=>?_
    obtain⟨VA2,vc2,rfl,_⟩:=xK.form;have yL:=xG.grown hg7 (fun e=>by have:=(eT.lt _ e).1;omega);have sa:=uZ yl.holds jj hat7;have yG:=yl.grownRow jj (fun q hq=>by have:=(eT.lt q hq).1;omega) zC hg7;obtain⟨L2,sV⟩:∃ L2,L'++[z']=L2:=⟨_,rfl⟩
    rw[sV]at xK sa⊢
    have lj:Hid ((∀ z∈L2,Modest z∧(zd z).length≤BI m)∧L2.length=L'.length+1):=by
     rw[Hid,← sV]
     refine⟨fun z hz=>?_,by simp⟩
     rw[List.mem_append]at hz
     rcases hz with hz | hz
     ·exact qz.out.1 z hz
     ·rw[List.mem_singleton.1 hz];exact HY.out
    clear sV eT jj xG yl hg7 hat7 jG;have sE:IntKind.i64.wrap ((kk:Int)-1)=(kk:Int)-1:=IntWalk.i64_in _ (by have:=qz.out.2;omega);go_wp2_with fail
    go_roundw
    case rel=>exact⟨kk-1,_,VA2,vc2,_,L2,by rw[show((kk-1:Nat):Int)=(kk:Int)-1 by omega],rfl,rfl,yG,xK,lj.out.1,by have:=lj.out.2;have:=qz.out.2;omega,yL,jR,sa⟩
    case measure=>simp[intOf];omega
   ·skip
    obtain⟨H5,mH,lP,vT,VC,sz,t8,sL⟩:=ww.snap vy.holds (fun q hq=>tn q (vJ hq));have yQ:∀ q,VA.map (·.block)=some q→w.heap.size+1≤q:=fun q hq=>(ww.lt q (vJ hq)).1
    have gf:H5 w.heap.size=none:=va vT sk (fun e=>by have:=yQ _ e;omega);have zA:Dealt w H wr H5 g:=vy.snap (B:=w.heap.size+1) mH lP vT yQ (by omega) zC;have BD:=Hh (aa (hTab.mono zA.le) (IsRowI.two sz t8 sL) (by have:=qz.out.2;omega) wr zA.holds);clear ww vT sL lP mH sk tn yQ vy;go_wp2_with fail
    refine BD.out.mono ?_
    intro e w8 ln
    obtain⟨v8,c,y8,rfl,⟨qa,qb,qc,qd,H8,rfl,ga,XX⟩,hbo⟩:=ln.one;have vN:=vf.below ga.below;have Ve:=ga.none gf vf.lt;have wL:=zA.grown ga;have tM:=vN.alloc (zW y8 qa qb qc qd);have TN:=Blk.new w8 26 #[.int .i64 y8.kind,.int .u64 y8.n,.slice qa y8.bytes.length qb,.slice qc y8.items.length qd];have zP:=wL.alloc (zW y8 qa qb qc qd);have qJ:=Ve;clear BD vf ga zA gf vN wL Ve
    rcases hbo with ⟨rfl,l,Zg,hvx,gh,_⟩ | ⟨hc,hxz,lr⟩
    ·have VT:=Hh (show Modest y8∧(zd y8).length≤BI (m+1) by
      refine⟨uo hvx, ?_⟩
      rw[Zg];have h1:=xI 5 0 [] l (by omega) (by omega);have h2:=oE (fun z hz=>(qz.out.1 z hz).2);have h3:L.length*BI m≤6*BI m:=Nat.mul_le_mul_right _ (by have:=qz.out.2;omega)
      simp only[List.length_nil]at h1
      rw[BI]
      omega)
     clear Zg hvx gh;go_upto_region 30 with fail
     go_wp2_with (with_reducible refine zx ?_)
     refine stI tM fun wz hTy zU=>?_
     have qM:=zP.gb qJ (Nat.le_refl _) zC zU;go_wp2_with fail
     refine yN rfl rfl hTy rfl rfl zw rfl ?_
     exact⟨_,y8,rfl,⟨qa,qb,qc,qd,H8,rfl,qM,XX⟩,VT.out.1,VT.out.2⟩
    ·have b1:(c != 0)=true:=by simp[hc]
     have p1:(c=0)=False:=eq_false hc;clear hc lr hxz;go_upto_region 29 with fail
     go_wp2_with (with_reducible refine zx ?_)
     refine stI tM fun wz hTy zU=>?_
     have qM:=zP.gb qJ (Nat.le_refl _) zC zU;go_wp2_with fail
     refine yN rfl rfl hTy rfl rfl zw rfl ?_
     exact⟨_,.mk 5 0 [] [],rfl,⟨none,0,none,0,H8,rfl,qM,IsItem.plain _ 5 0 (by omega) (by omega)⟩,y9 _ _ _ (by simp),by have:=xI 5 0 [] [] (by omega) (by omega);have:=jB (m+1);simp[zB]at *;omega⟩
 ·have NB:=Hh (ts w1 us.deck);go_wp2_with fail
  refine NB.out.mono ?_
  rintro e w2 ⟨m',rfl,pC,yv⟩
  have xD:=tE.dealt yv (by omega);have yF:=us.trans yv;have tb:=yv.hid uy tE.lt;have n5:=Hh pC;clear NB us yv tE uy pC;have IT:=Hh (ih w2 H g hTab yF.deck);go_wp2_with fail
  refine IT.out.mono ?_
  rintro e w4 ⟨v4,y,rfl,⟨ja,jb,jc,jd,H4,rfl,xR,jG⟩,gd,lq⟩
  have xG:=(xD.dealt xR (by omega)).alloc (.cells (zg y ja jb jc jd).toArray 26);have jj:=xR.hid tb xD.lt;have yl:=(yF.trans xR).alloc (.cells (zg y ja jb jc jd).toArray 26);have hO:=OwnI.lit (w:=w4) (ItemsC.one jG) w4.heap.size (Nat.le_refl _) (by simp);have M7:w.heap.size<w4.heap.size:=by have:=xD.lt;have:=xR.size;omega
  obtain⟨H5,mH,lP,vT,VC,sz,t8,sL⟩:=hO.snap yl.holds (fun q hq=>by cases hq;exact xR.holds.none_of_ge (Nat.le_refl _));have bF:∀ q,q<w4.heap.size→H4 q=none→H5 q=none:=fun q hq h0=>va vT h0 (fun e=>by simp at e;omega)
  have zA:Dealt w H (w4.alloc (.cells (zg y ja jb jc jd).toArray 26)) H5 g:=yl.snap (B:=w4.heap.size) mH lP vT (fun q hq=>by simp at hq;omega) (by omega) zC;have gf:=bF _ M7 jj;obtain⟨x7,lX⟩:∃ x,Itm.mk 6 m' [] [y]=x:=⟨_,rfl⟩
  have ZX:ItemA H5 6 m' none 0 0 (some ⟨w4.heap.size,0,none⟩) 1 1 x7:=by
   refine⟨by rw[← lX];rfl,by rw[← lX];rfl,by rw[← lX];rfl,by rw[← lX];rfl, ?_⟩
   rw[← lX]
   exact IsRowI.item ⟨sz,t8,sL⟩ 6 (by omega) m' n5.out
  have WH:=Hh (fi (hTab.mono zA.le) ZX _ zA.holds)
  have Wx:=Hh (show Modest x7∧(zd x7).length≤9+BI m by
   rw[← lX]
   refine⟨by rw[Modest,ModestL,ModestL];exact⟨by simp,by simp,gd,trivial⟩, ?_⟩
   have:=xI 6 m' [] [y] (by omega) (by omega)
   simp[zB]at this
   omega)
  clear IT xD tb yF xR yl hO vT sL bF ZX jG gd lq lX lP mH jj;go_wp2_with fail
  refine WH.out.mono ?_
  rintro e w8 ⟨v8,y8,rfl,⟨qa,qb,qc,qd,H8,rfl,ga,XX⟩,hy8⟩
  have tM:=xG.below ga.below;have qJ:=ga.none gf xG.lt;have zP:=zA.grown ga;have HY:=Hh hy8;clear WH xG ga zA gf hy8;go_wp2_with (with_reducible refine zx ?_)
  refine stI tM fun wz hTy zU=>?_
  have qM:=zP.gb qJ (Nat.le_refl _) zC zU;go_wp2_with fail
  refine yN rfl rfl hTy rfl rfl zw rfl ?_
  refine⟨_,y8,rfl,⟨qa,qb,qc,qd,H8,rfl,qM,XX⟩, ?_⟩
  rcases HY.out with rfl | rfl
  ·exact⟨Wx.out.1,by have:=Wx.out.2;rw[BI];omega⟩
  ·exact⟨mQ,Nat.le_trans ip (jB _)⟩
 ·have hB:=Blk.new w1 22 #[.int .u64 20,.int .u64 21,.int .u64 22,.int .u64 23,.int .u64 0,.int .u64 19,.int .u64 32,.int .u64 255];have yv:=us.alloc (.cells #[.int .u64 20,.int .u64 21,.int .u64 22,.int .u64 23,.int .u64 0,.int .u64 19,.int .u64 32,.int .u64 255] 22);have xD:=tE.alloc (.cells #[.int .u64 20,.int .u64 21,.int .u64 22,.int .u64 23,.int .u64 0,.int .u64 19,.int .u64 32,.int .u64 255] 22);have NB:=Hh (yX _ yv.deck 8 (by omega) (by omega));go_wp2_with fail
  refine NB.out.mono ?_
  rintro e w3 ⟨j,rfl,hj,yF⟩
  have wO:=hB.dealt yF (by have:=us.size;omega);obtain⟨v,hc,hP⟩:=wO.pick jD (by kernel_rfl) j (by simp;omega);obtain⟨x,rfl,hx⟩:=qY hP;have tM:=xD.dealt yF (by omega);have qJ:=yF.hid uy xD.lt;have zP:=yv.trans yF;have n5:=Hh hx;clear NB hB wO hP us yv yF hx tE xD uy;go_wp2_with (with_reducible refine zx ?_)
  refine stI tM fun wz hTy zU=>?_
  have qM:=zP.gb qJ (Nat.le_refl _) zC zU;go_wp2_with fail
  refine yN rfl rfl hTy rfl rfl zw rfl ?_
  exact⟨_,.mk 7 x [] [],rfl,⟨none,0,none,0,_,rfl,qM,IsItem.plain _ 7 x (by omega) n5.out⟩,y9 _ _ _ (by simp),Nat.le_trans (mM x) eO.out⟩
 ·have NB:=Hh (fh w1 us.deck);go_wp2_with fail
  refine NB.out.mono ?_
  rintro e w2 ⟨⟨m',rfl,pC⟩,yv⟩
  have tM:=tE.dealt yv (by omega);have zP:=us.trans yv;have qJ:=yv.hid uy tE.lt;have n5:=Hh pC;clear NB us yv tE uy pC;go_wp2_with (with_reducible refine zx ?_)
  refine stI tM fun wz hTy zU=>?_
  have qM:=zP.gb qJ (Nat.le_refl _) zC zU;go_wp2_with fail
  refine yN rfl rfl hTy rfl rfl zw rfl ?_
  exact⟨_,.mk 8 m' [] [],rfl,⟨none,0,none,0,_,rfl,qM,IsItem.plain _ 8 m' (by omega) n5.out⟩,y9 _ _ _ (by simp),Nat.le_trans (jw m') eO.out⟩
theorem OwnX.kl {α:Type}{L:Lie α}{t:TypeId}{w w':World}{base N:Nat}{v:Value}{H:Snap}{l:List α}(h:OwnX L t w base v H l) (hg:w.grownBy w' (some N)) (hl:∀ q,v.ownBlock=some q→q<N):OwnX L t w' base v H l:=h.kept hg (by cases hv:v.ownBlock with | none=>exact .inl rfl | some q=>exact .inr (fun e=>by injection e with e;exact Nat.lt_irrefl _ (e ▸ hl q hv)))
end Go.Proofs.YtnlinmoiakgedaaGreatDoor
