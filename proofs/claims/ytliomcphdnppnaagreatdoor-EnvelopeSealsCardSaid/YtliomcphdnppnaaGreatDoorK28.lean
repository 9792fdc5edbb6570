/- squeezed. Walks: the columns of AES are mixe -/
import Derived.Test.YtliomcphdnppnaaGreatDoorK27
import Derived.Laws.CopyOwn
set_option linter.unusedVariables false
set_option linter.unusedSimpArgs false
set_option maxRecDepth 100000
set_option maxHeartbeats 6400000
namespace Go.Proofs.YtliomcphdnppnaaGreatDoor
open Go.RowKit
def sm (l:List UInt8) (i:Nat):Nat→UInt8
 | 0=>0
 | k+1=>sm l i k ^^^ lY l i k
theorem cK (l:List UInt8):vq l=(List.range 16).map fun i=>sm l i 4:=rfl
def rG:Array Value:=#[.int .u8 2,.int .u8 3,.int .u8 1,.int .u8 1]
theorem f9 {k:Nat}(h:k<4):rG[k]? = some (.int .u8 (([2,3,1,1].getD k 0:Nat):Int)):=by
 obtain rfl | rfl | rfl | rfl:k=0∨k=1∨k=2∨k=3:=by omega
 all_goals rfl
theorem ae {k:Nat}(h:k<4):[2,3,1,1].getD k 0=1∨[2,3,1,1].getD k 0=2∨[2,3,1,1].getD k 0=3:=by
 obtain rfl | rfl | rfl | rfl:k=0∨k=1∨k=2∨k=3:=by omega
 all_goals decide
theorem av (l:List UInt8) (i:Nat) (a b:UInt8):(l.set i a).set i b=l.set i b:=by simp
theorem Ts {g:Nat}{t:TypeId}{l:List UInt8}(hl:l.length=16) (w:World) (hB:Blk w g t (zr l)) :
  Calls Tryz.prog 154 #[.pointer (some ⟨g,0,none⟩),.agg rG] w fun e w'=>(∃ v,e=.returned v)∧Blk w' g t (zr (vq l))∧w.grownBy w' (some g):=by
 have hM:=(Blk.new w 167 rG).alloc (.cells (zr (List.replicate 16 0)) 123);have hz:=Blk.new (w.alloc (.cells rG 167)) 123 (zr (List.replicate 16 0));rw[zu]at hz;have mv:w.grownBy ((w.alloc (.cells rG 167)).alloc (.cells (zr (List.replicate 16 0)) 123)) (some g):=yL (yL (yz w _) _) _;have rI:=Hh hB.lt;have VY:=hB.alloc (.cells rG 167);have yO:=VY.alloc (.cells (zr (List.replicate 16 0)) 123);rw[← wl (fun i=>sm l i 4) hl]at yO;have HL:=Hh hl;clear hB;go_enter Tryz.func154,Tryz.ntmps154
 go_wp2_with (with_reducible refine wU 123 ?_)
 refine zN rfl _ _ rfl g 0 16 rfl VY (by omega) _ Tryz.underlying123 rfl (by kernel_rfl) ?_
 rw[xm hl];go_wp2_with (with_reducible refine zx ?_)
 refine zt rfl _ _ _ rfl rfl (w.heap.size+1) (zr l) rfl rfl _ _ hz (by rw[zo,hl];kernel_rfl) (by rw[zo,hl];rfl) (ym _) fun w2 hO qJ=>?_
 replace yO:=yO.grown qJ (by intro e;injection e with e;have:=rI.out;omega);replace hM:=hM.gr qJ (by omega);replace mv:=zD mv qJ (.inr ⟨_,rfl,by omega⟩);clear VY hl hz qJ;go_wp2_with fail
 go_loopw [12] (fun v12 wr=>∃ i:Nat,v12=.int .i64 (i:Int)∧i≤16∧Blk wr g t (zr (wW 16 (fun i=>sm l i 4) l i))∧Blk wr (w.heap.size+1) 123 (zr l)∧Blk wr w.heap.size 167 rG∧w.grownBy wr (some g)) (fun v12 _=>(16-intOf v12).toNat)
 case atStart=>exact⟨0,rfl,by omega,yO,hO,hM,mv⟩
 case round =>
 clear yO hO hM mv;obtain⟨i,rfl,hi,hB,hO,hM,hg⟩:=hrel
 by_cases zB:(i:Int)<16
 ·obtain⟨r,hr⟩:∃ r,i%4=r:=⟨_,rfl⟩
  obtain⟨c,hc⟩:∃ c,i/4=c:=⟨_,rfl⟩
  obtain⟨c4,ik⟩:∃ e,4*c=e:=⟨_,rfl⟩
  have t1:(i:Int).tmod 4=(r:Int):=by rw[← hr];exact(Int.ofNat_tmod i 4).symm
  have t2:(i:Int).tdiv 4=(c:Int):=by rw[← hc];exact(Int.ofNat_tdiv i 4).symm
  have t1':(i:Int)%4=(r:Int):=by rw[← hr];omega
  have t2':(i:Int)/4=(c:Int):=by rw[← hc];omega
  have W0:IntKind.i64.wrap (4*(c:Int))=(c4:Int):=by rw[show 4*(c:Int)=((4*c:Nat):Int) by omega,ik];exact zP (by omega)
  have HI:=Hh (And.intro hr (And.intro hc ik));obtain⟨U,hU⟩:∃ U,wW 16 (fun i=>sm l i 4) l i=U:=⟨_,rfl⟩
  have S1:Hid (U.set i (sm l i 4)=wW 16 (fun i=>sm l i 4) l (i+1)):=by rw[← hU];exact vZ (fun i=>sm l i 4) l (by omega)
  have HU:Hid (U.length=16):=by rw[← hU];exact xe _ _ _ _
  rw[hU]at hB;clear hr hc ik hU;go_wp2_with (with_reducible refine zx ?_)
  refine zT rfl _ _ _ rfl rfl g i (zv (sm l i 0)) rfl rfl _ _ hB yM (by rw[zo,HU.out];omega) rfl fun w5 mM yF=>?_
  rw[xl]at mM;have xS:=hO.grown yF (by intro e;injection e with e;have:=rI.out;omega);have Hk:=hM.grown yF (by intro e;injection e with e;have:=rI.out;omega);have xO:=zD hg yF (.inl rfl);clear hB hO hM hg yF;go_wp2_with fail
  go_loopw [23] (fun v23 wx=>∃ k:Nat,v23=.int .i64 (k:Int)∧k≤4∧Blk wx g t (zr (U.set i (sm l i k)))∧Blk wx (w.heap.size+1) 123 (zr l)∧Blk wx w.heap.size 167 rG∧w.grownBy wx (some g)) (fun v23 _=>(4-intOf v23).toNat)
  case atStart=>exact⟨0,rfl,by omega,mM,xS,Hk,xO⟩
  case round =>
  clear mM xS Hk xO;obtain⟨k,rfl,hk,hB,hO,hM,hg⟩:=hrel
  by_cases dp:(k:Int)<4
  ·obtain⟨e,he⟩:∃ e,r+k=e:=⟨_,rfl⟩
   obtain⟨q,hq⟩:∃ q,e%4=q:=⟨_,rfl⟩
   obtain⟨x,hx⟩:∃ x,c4+q=x:=⟨_,rfl⟩
   have W1:IntKind.i64.wrap ((r:Int)+(k:Int))=(e:Int):=by rw[← Int.natCast_add,he];exact zP (by have:=HI.out.1;omega)
   have t3:(e:Int).tmod 4=(q:Int):=by rw[← hq];exact(Int.ofNat_tmod e 4).symm
   have t3':(e:Int)%4=(q:Int):=by rw[← hq];omega
   have W2:IntKind.i64.wrap ((c4:Int)+(q:Int))=(x:Int):=by rw[← Int.natCast_add,hx];exact zP (by have:=HI.out;omega)
   have lx:(x:Int)<16:=by have:=HI.out;omega
   obtain⟨u,hu⟩:∃ u,at_ l x=u:=⟨_,rfl⟩
   obtain⟨m,hm⟩:∃ m,[2,3,1,1].getD k 0=m:=⟨_,rfl⟩
   obtain⟨p,hp⟩:∃ p,sm l i k=p:=⟨_,rfl⟩
   have HV:Hid (sm l i (k+1)=p ^^^ sB u m):=by
    rw[Hid,sm,hp,lY,HI.out.1,HI.out.2.1,HI.out.2.2,he,hq,hx,hu,hm]
   have c0:=hO.drew.cell x (zK _ _ (by have:=HL.out;omega));have c1:=hM.drew.cell k (f9 (by omega));have c2:=hB.drew.cell i (zK _ _ (by rw[List.length_set,HU.out];omega));have Yv:=ae (show k<4 by omega);rw[show at_ (U.set i (sm l i k)) i=sm l i k by simp[at_,List.getD_eq_getElem?_getD,show i<U.length by rw[HU.out];omega],hp]at c2;rw[hu]at c0;rw[hm]at c1 Yv;have PR:=Hh (eA u m Yv);have X:=Hh (yn p (sB u m));clear he hq hx hu hm hp Yv;go_upto_region 10 with fail
   refine zw 21 (fun wx=>wx.cell? ⟨w.heap.size+1,x,none⟩=some (zv u)∧wx.cell? ⟨w.heap.size,k,none⟩=some (.int .u8 (m:Int))∧wx.cell? ⟨g,i,none⟩=some (zv p)) (by kernel_rfl) (⟨c0,c1,c2⟩) (fun zy=>?_)
   refine Tk 0 rfl zy ?_
   refine Tk 1 rfl zy ?_
   refine Tk 2 rfl zy ?_
   refine Tk 3 rfl zy ?_
   refine Tk 4 rfl zy ?_
   refine Tk 5 rfl zy ?_
   refine Tk 6 rfl zy ?_
   refine Tk 7 rfl zy ?_
   refine Tk 8 rfl zy ?_
   refine Tk 9 rfl zy ?_
   refine Tk 10 rfl zy ?_
   refine Tk 11 rfl zy ?_
   refine Tk 12 rfl zy ?_
   refine Tk 13 rfl zy ?_
   refine Tk 14 rfl zy ?_
   refine Tk 15 rfl zy ?_
   refine Tk 16 rfl zy ?_
   refine Tk 19 rfl zy ?_
   refine To 17 rfl fun K hK=>?_
   go_simp
   refine(PR.out _).mono ?_
   rintro e w7 ⟨rfl,rfl⟩
   clear zy
   refine hK.out _ _ (fun _=>?_) (fun zy=>?_)
   ·exact⟨c0,c1,c2⟩
   clear hK K;replace zy:=zy (by decide)
   try simp only[Act.put,zz1,zz2,zz3,zz4,zz5,zz6]
   refine Tk 18 rfl zy ?_
   refine Tk 20 rfl zy ?_
   refine To 21 rfl fun K hK=>?_
   rw[if_pos (by rfl)]
   refine yW _ _ _ rfl g i (zv (p ^^^ sB u m)) rfl (by show Value.int .u8 (bits .xor .u8 (p.toNat:Int) ((sB u m).toNat:Int))=_;rw[X.out]) _ _ hB.drew yM (by rw[zo,List.length_set,HU.out];omega) rfl fun w9 ly xr=>?_
   refine Kz hK ?_
   clear hK K
   refine Wd ?_
   clear zy;rw[xl,av,← HV.out]at ly;have gf:=hO.drew.grown xr (by intro e;injection e with e;have:=rI.out;omega);have RE:=hM.drew.grown xr (by intro e;injection e with e;have:=rI.out;omega);have yY:=zD (vL hg) xr (.inl rfl);clear xr c0 c1 c2 hB hO hM hg t3 t3' W1 W2 lx PR X;go_wp2_with fail
   go_roundw
   case rel=>exact⟨k+1,by go_num,by omega,ly,gf,RE,yY⟩
   case measure=>simp[intOf];omega
  obtain rfl:k=4:=by omega
  rw[show((4:Nat):Int)=4 from rfl]at dp⊢;rw[S1.out]at hB;clear t1 t2 t1' t2' W0;go_wp2_with fail
  go_roundw
  case rel=>exact⟨i+1,by go_num,by omega,hB,hO,hM,hg⟩
  case measure=>simp[intOf];omega
 obtain rfl:i=16:=by omega
 rw[show((16:Nat):Int)=16 from rfl]at zB⊢;rw[uU,← cK]at hB;go_wp2_with fail
 go_end0
 exact⟨⟨_,rfl⟩,hB,hg⟩
theorem ay {P:Program}{ops:Array Oper}{Q:Exit→Act→World→Prop}{rest:List Oper}{a:Act}{w:World}{dst:Option Tmp}{d s:Operand}{tys:Array TypeId}{T:TypeId}{pos:String}{af:Array Edge}{g:Option (Nat×Bool)}
  (h:yy (wpList P ops Q (⟨dst,.call { callee:=.builtin .copy,args:=#[d,s],argTypes:=tys },T,pos,af,g⟩::rest) a w)):wpList P ops Q (⟨dst,.call { callee:=.builtin .copy,args:=#[d,s],argTypes:=tys },T,pos,af,g⟩::rest) a w:=h
theorem rR {w:World}{ops:Array Oper}{rest:List Oper}{o:Oper}{a:Act}{Q:Exit→Act→World→Prop}(hgd:o.guard=none) (d s:Operand)
  (ho:o.op=.call { callee:=.builtin .copy,args:=#[d,s],argTypes:=#[23,23] })
  (g off n c:Nat) (hd:a.eval d=.slice (some ⟨g,off,none⟩) n c) (A:Option Addr) (m c':Nat) (news:List UInt8) (hs:a.eval s=.slice A m c') (hm:m=news.length)
  (hr:Src w A (news.map zv)) (zC:news.length≤n) {t:TypeId} {l:List UInt8} (hB:Blk w g t (zr l)) (hfit:off+news.length≤l.length)
  (h:∀ w',Blk w' g t (zr (spl l off news))→w.grownBy w' (some g)→wpList Tryz.prog ops Q rest (a.put o.dst (goInt news.length)) w') :
  wpList Tryz.prog ops Q (o::rest) a w:=by
 subst hm
 by_cases h0:news.length=0
 ·refine wpList_copy_nothing hgd d s _ _ ho 5 Tryz.underlying23 yM _ _ _ _ _ _ hd hs (by rw[h0];simp) ?_
  have hn:news=[]:=List.eq_nil_of_length_eq_zero h0;have:=h w (by rw[hn,spl];simpa using hB) (yz w _);rwa [h0]at this
 obtain⟨b,o2,rfl,hc⟩:=hr (by intro e;rw[List.map_eq_nil_iff]at e;rw[e]at h0;exact h0 rfl);have hl:(news.map zv).length=news.length:=by simp
 refine wpList_copy_own hgd d s _ _ ho 5 Tryz.underlying23 yM g off n c ⟨b,o2,none⟩ _ _ hd hs (zr l) t hB (news.map zv) (by rw[hl];exact(Nat.min_eq_left zC).symm) (fun j v hj=>by rw[Addr.add_mid];exact hc j v hj) (by rw[zo,hl];exact hfit) (by simp[Value.oneCell']) ?_
 rw[hl]
 refine h _ ?_ ⟨rfl,rfl,rfl,by simp[World.setRow],fun k hk xg=>setRow_other w g k _ (fun e=>xg (by rw[e]))⟩
 have e:(zr (spl l off news))=(List.take off (zr l).toList++(List.map zv news++List.drop (off+news.length) (zr l).toList)).toArray:=by
  simp only[zr,spl,List.toList_toArray,List.map_append,List.map_take,List.map_drop,List.append_assoc]
 rw[e]
 exact setRow_heap w g _ _ t _ hB
def ob (S key:List UInt8) (n:Nat):List UInt8:=yK S key n++List.replicate (160-n) 0
theorem fK (S key:List UInt8) (h:key.length=16) {n:Nat}(hn:n≤160):(ob S key n).length=176:=by
 rw[ob,List.length_append,wT _ _ h,List.length_replicate];omega
theorem au (S key:List UInt8) (h:key.length=16) {n j:Nat}(hn:n≤160) (hj:j<16+n):at_ (ob S key n) j=at_ (yK S key 160) j:=by
 have hl:=wT S key h n;rw[qu S key h hn hj,ob,at_,at_,List.getD_eq_getElem?_getD,List.getElem?_append_left (by omega),← List.getD_eq_getElem?_getD]
theorem XJ (S key:List UInt8) (h:key.length=16) {n:Nat}(hn:n<160):(ob S key n).set (16+n) (at_ (yK S key 160) (16+n))=ob S key (n+1):=by
 have hl:=wT S key h n;rw[qu S key h (show n+1≤160 by omega) (show 16+n<16+(n+1) by omega)];rw[ob,ob,show yK S key (n+1)=yK S key n++[mr S (yK S key n) (16+n)] from rfl,List.set_append_right _ _ (by omega),hl,Nat.sub_self,show 160-n=(160-(n+1))+1 by omega,List.replicate_succ,List.set_cons_zero,List.append_assoc];rw[at_,List.getD_eq_getElem?_getD,List.getElem?_append_right (by omega),hl]
 simp
def firstT (S key:List UInt8) (i k:Nat):UInt8:=at_ S (at_ (yK S key 160) (16*i-4+(k+1)%4)).toNat ^^^ (if k=0 then rcU (i-1) else 0)
def lR (S key:List UInt8) (i k:Nat):UInt8:=if k<4 then firstT S key i k else at_ (yK S key 160) (16*i+k-4)
theorem kx (S key:List UInt8) (h:key.length=16) {i k:Nat}(hi:1≤i) (pI:i≤10) (hk:k<16) :
  at_ (yK S key 160) (16*i+k)=lR S key i k ^^^ at_ (yK S key 160) (16*(i-1)+k):=by
 obtain⟨n,hn⟩:∃ n,16*(i-1)+k=n:=⟨_,rfl⟩
 obtain⟨m,hm⟩:∃ m,16*i+k=m:=⟨_,rfl⟩
 have hl:=wT S key h n;have E1:=qu S key h (show n+1≤160 by omega) (show m<16+(n+1) by omega);have E2:=qu S key h (show n≤160 by omega) (show n<16+n by omega);have E3:∀ j,j<16+n→at_ (yK S key 160) j=at_ (yK S key n) j:=fun j hj=>qu S key h (show n≤160 by omega) hj
 have e0:at_ (yK S key (n+1)) m=mr S (yK S key n) m:=by
  rw[show yK S key (n+1)=yK S key n++[mr S (yK S key n) (16+n)] from rfl,at_,List.getD_eq_getElem?_getD,List.getElem?_append_right (by omega),hl,show m-(16+n)=0 by omega,show 16+n=m by omega];rfl
 rw[lR,firstT]
 generalize yK S key 160=K at *
 rw[hm,hn,E1,e0,mr,show m-16=n by omega,show m%16=k by omega,show m/16=i by omega,UInt8.xor_comm,← E2];congr 1
 by_cases h4:k<4
 ·rw[if_pos h4,if_pos h4,E3 _ (by omega)]
 rw[if_neg h4,if_neg h4,E3 _ (by omega)]
theorem co (S key:List UInt8) (h:key.length=16) {i k:Nat}(hi:1≤i) (pI:i≤10) (hk:k<16):lR S key i (k+4)=lR S key i k ^^^ at_ (yK S key 160) (16*(i-1)+k):=by
 rw[← kx S key h hi pI hk];conv=>lhs;rw[lR,if_neg (by omega)]
 rw[show 16*i+(k+4)-4=16*i+k by omega]
structure TRow (S key:List UInt8) (i k:Nat) (l:List UInt8):Prop where
 len:l.length=4
 val:∀ j,k≤j→j<k+4→at_ l (j%4)=lR S key i j
theorem Xg (l:List UInt8) (i j:Nat) (u:UInt8) (h:i<l.length):at_ (l.set i u) j=if i=j then u else at_ l j:=by
 simp only[at_,List.getD_eq_getElem?_getD,List.getElem?_set]
 by_cases e:i=j
 ·subst e;simp[h]
 simp[e]
theorem TRow.step {S key:List UInt8}(h:key.length=16) {i k:Nat}(hi:1≤i) (pI:i≤10) (hk:k<16) {l:List UInt8}(hl:TRow S key i k l):TRow S key i (k+1) (l.set (k%4) (at_ (yK S key 160) (16*i+k))) :=
 ⟨by rw[List.length_set];exact hl.len,fun j h1 h2=>by
  rw[Xg _ _ _ _ (by rw[hl.len];omega)]
  by_cases e:j=k+4
  ·subst e;rw[if_pos (by omega),kx S key h hi pI hk,co S key h hi pI hk]
  rw[if_neg (by omega)]
  exact hl.val j (by omega) (by omega)⟩
theorem TRow.start (S key:List UInt8) (i:Nat):TRow S key i 0 [firstT S key i 0,firstT S key i 1,firstT S key i 2,firstT S key i 3] :=
 ⟨rfl,fun j _ h=>by
  obtain rfl | rfl | rfl | rfl:j=0∨j=1∨j=2∨j=3:=by omega
  all_goals rfl⟩
end Go.Proofs.YtliomcphdnppnaaGreatDoor
