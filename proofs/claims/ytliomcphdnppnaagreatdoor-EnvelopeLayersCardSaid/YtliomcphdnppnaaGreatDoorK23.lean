/- squeezed. Walks: the columns of AES are mixe -/
import Derived.Test.YtliomcphdnppnaaGreatDoorK22
import Derived.Laws.CopyOwn
set_option linter.unusedVariables false
set_option linter.unusedSimpArgs false
set_option maxRecDepth 100000
set_option maxHeartbeats 6400000
namespace Go.Proofs.YtliomcphdnppnaaGreatDoor
open Go.RowKit
def sH (l:List UInt8) (i:Nat):Nat→UInt8
 | 0=>0
 | k+1=>sH l i k ^^^ Yj l i k
theorem ae (l:List UInt8):ph l=(List.range 16).map fun i=>sH l i 4:=rfl
def eg:Array Value:=#[.int .u8 2,.int .u8 3,.int .u8 1,.int .u8 1]
theorem UV {k:Nat}(h:k<4):eg[k]? = some (.int .u8 (([2,3,1,1].getD k 0:Nat):Int)):=by
 obtain rfl | rfl | rfl | rfl:k=0∨k=1∨k=2∨k=3:=by omega
 all_goals rfl
theorem SG {k:Nat}(h:k<4):[2,3,1,1].getD k 0=1∨[2,3,1,1].getD k 0=2∨[2,3,1,1].getD k 0=3:=by
 obtain rfl | rfl | rfl | rfl:k=0∨k=1∨k=2∨k=3:=by omega
 all_goals decide
theorem Sf (l:List UInt8) (i:Nat) (a b:UInt8):(l.set i a).set i b=l.set i b:=by simp
theorem Rl {g:Nat}{t:TypeId}{l:List UInt8}(hl:l.length=16) (w:World) (hB:Blk w g t (zj l)) :
  Calls Tryz.prog 154 #[.pointer (some ⟨g,0,none⟩),.agg eg] w fun e w'=>(∃ v,e=.returned v)∧Blk w' g t (zj (ph l))∧w.grownBy w' (some g):=by
 have hM:=(Blk.new w 167 eg).alloc (.cells (zj (List.replicate 16 0)) 123);have hz:=Blk.new (w.alloc (.cells eg 167)) 123 (zj (List.replicate 16 0));rw[zr]at hz;have mA:w.grownBy ((w.alloc (.cells eg 167)).alloc (.cells (zj (List.replicate 16 0)) 123)) (some g):=yR (yR (yt w _) _) _;have uK:=Hh hB.lt;have Yp:=hB.alloc (.cells eg 167);have y9:=Yp.alloc (.cells (zj (List.replicate 16 0)) 123);rw[← sk (fun i=>sH l i 4) hl]at y9;have HL:=Hh hl;clear hB;go_enter Tryz.func154,Tryz.ntmps154
 go_wp2_with (with_reducible refine uh 123 ?_)
 refine yq rfl _ _ rfl g 0 16 rfl Yp (by omega) _ Tryz.underlying123 rfl (by kernel_rfl) ?_
 rw[vS hl];go_wp2_with (with_reducible refine zx ?_)
 refine zv rfl _ _ _ rfl rfl (w.heap.size+1) (zj l) rfl rfl _ _ hz (by rw[zf,hl];kernel_rfl) (by rw[zf,hl];rfl) (xM _) fun w2 hO tu=>?_
 replace y9:=y9.grown tu (by intro e;injection e with e;have:=uK.out;omega);replace hM:=hM.gr tu (by omega);replace mA:=z8 mA tu (.inr ⟨_,rfl,by omega⟩);clear Yp hl hz tu;go_wp2_with fail
 go_loopw [12] (fun v12 wr=>∃ i:Nat,v12=.int .i64 (i:Int)∧i≤16∧Blk wr g t (zj (vA 16 (fun i=>sH l i 4) l i))∧Blk wr (w.heap.size+1) 123 (zj l)∧Blk wr w.heap.size 167 eg∧w.grownBy wr (some g)) (fun v12 _=>(16-intOf v12).toNat)
 case atStart=>exact⟨0,rfl,by omega,y9,hO,hM,mA⟩
 case round =>
 clear y9 hO hM mA;obtain⟨i,rfl,hi,hB,hO,hM,hg⟩:=hrel
 by_cases zB:(i:Int)<16
 ·obtain⟨r,hr⟩:∃ r,i%4=r:=⟨_,rfl⟩
  obtain⟨c,hc⟩:∃ c,i/4=c:=⟨_,rfl⟩
  obtain⟨c4,QY⟩:∃ e,4*c=e:=⟨_,rfl⟩
  have t1:(i:Int).tmod 4=(r:Int):=by rw[← hr];exact(Int.ofNat_tmod i 4).symm
  have t2:(i:Int).tdiv 4=(c:Int):=by rw[← hc];exact(Int.ofNat_tdiv i 4).symm
  have t1':(i:Int)%4=(r:Int):=by rw[← hr];omega
  have t2':(i:Int)/4=(c:Int):=by rw[← hc];omega
  have W0:IntKind.i64.wrap (4*(c:Int))=(c4:Int):=by rw[show 4*(c:Int)=((4*c:Nat):Int) by omega,QY];exact wa (by omega)
  have HI:=Hh (And.intro hr (And.intro hc QY));obtain⟨U,hU⟩:∃ U,vA 16 (fun i=>sH l i 4) l i=U:=⟨_,rfl⟩
  have S1:Hid (U.set i (sH l i 4)=vA 16 (fun i=>sH l i 4) l (i+1)):=by rw[← hU];exact sf (fun i=>sH l i 4) l (by omega)
  have HU:Hid (U.length=16):=by rw[← hU];exact us _ _ _ _
  rw[hU]at hB;clear hr hc QY hU;go_wp2_with (with_reducible refine zx ?_)
  refine ze rfl _ _ _ rfl rfl g i (zq (sH l i 0)) rfl rfl _ _ hB wi (by rw[zf,HU.out];omega) rfl fun w5 lL yP=>?_
  rw[wM]at lL;have xo:=hO.grown yP (by intro e;injection e with e;have:=uK.out;omega);have Fk:=hM.grown yP (by intro e;injection e with e;have:=uK.out;omega);have xX:=z8 hg yP (.inl rfl);clear hB hO hM hg yP;go_wp2_with fail
  go_loopw [23] (fun v23 wx=>∃ k:Nat,v23=.int .i64 (k:Int)∧k≤4∧Blk wx g t (zj (U.set i (sH l i k)))∧Blk wx (w.heap.size+1) 123 (zj l)∧Blk wx w.heap.size 167 eg∧w.grownBy wx (some g)) (fun v23 _=>(4-intOf v23).toNat)
  case atStart=>exact⟨0,rfl,by omega,lL,xo,Fk,xX⟩
  case round =>
  clear lL xo Fk xX;obtain⟨k,rfl,hk,hB,hO,hM,hg⟩:=hrel
  by_cases Wr:(k:Int)<4
  ·obtain⟨e,he⟩:∃ e,r+k=e:=⟨_,rfl⟩
   obtain⟨q,hq⟩:∃ q,e%4=q:=⟨_,rfl⟩
   obtain⟨x,hx⟩:∃ x,c4+q=x:=⟨_,rfl⟩
   have W1:IntKind.i64.wrap ((r:Int)+(k:Int))=(e:Int):=by rw[← Int.natCast_add,he];exact wa (by have:=HI.out.1;omega)
   have t3:(e:Int).tmod 4=(q:Int):=by rw[← hq];exact(Int.ofNat_tmod e 4).symm
   have t3':(e:Int)%4=(q:Int):=by rw[← hq];omega
   have W2:IntKind.i64.wrap ((c4:Int)+(q:Int))=(x:Int):=by rw[← Int.natCast_add,hx];exact wa (by have:=HI.out;omega)
   have lx:(x:Int)<16:=by have:=HI.out;omega
   obtain⟨u,hu⟩:∃ u,at_ l x=u:=⟨_,rfl⟩
   obtain⟨m,hm⟩:∃ m,[2,3,1,1].getD k 0=m:=⟨_,rfl⟩
   obtain⟨p,hp⟩:∃ p,sH l i k=p:=⟨_,rfl⟩
   have HV:Hid (sH l i (k+1)=p ^^^ Yk u m):=by
    rw[Hid,sH,hp,Yj,HI.out.1,HI.out.2.1,HI.out.2.2,he,hq,hx,hu,hm]
   have c0:=hO.drew.cell x (yT _ _ (by have:=HL.out;omega));have c1:=hM.drew.cell k (UV (by omega));have c2:=hB.drew.cell i (yT _ _ (by rw[List.length_set,HU.out];omega));have Jh:=SG (show k<4 by omega);rw[show at_ (U.set i (sH l i k)) i=sH l i k by simp[at_,List.getD_eq_getElem?_getD,show i<U.length by rw[HU.out];omega],hp]at c2;rw[hu]at c0;rw[hm]at c1 Jh;have PR:=Hh (cZ u m Jh);have X:=Hh (xE p (Yk u m));clear he hq hx hu hm hp Jh;go_upto_region 10 with fail
   refine zw 21 (fun wx=>wx.cell? ⟨w.heap.size+1,x,none⟩=some (zq u)∧wx.cell? ⟨w.heap.size,k,none⟩=some (.int .u8 (m:Int))∧wx.cell? ⟨g,i,none⟩=some (zq p)) (by kernel_rfl) (⟨c0,c1,c2⟩) (fun zy=>?_)
   refine Tk 0 rfl zy ?_
   refine Tk 1 rfl zy ?_
   refine Tk 2 rfl zy ?_
   refine Tk 3 rfl zy ?_
   refine Tk 4 rfl zy ?_
   refine Tk 5 rfl zy ?_
   refine Tk 6 rfl zy ?_
   refine Tk 7 rfl zy ?_
   refine Tk 8 rfl zy ?_
   refine Tk 9 rfl zy ?_
   refine Tk 10 rfl zy ?_
   refine Tk 11 rfl zy ?_
   refine Tk 12 rfl zy ?_
   refine Tk 13 rfl zy ?_
   refine Tk 14 rfl zy ?_
   refine Tk 15 rfl zy ?_
   refine Tk 16 rfl zy ?_
   refine Tk 19 rfl zy ?_
   refine To 17 rfl fun K hK=>?_
   go_simp
   refine(PR.out _).mono ?_
   rintro e w7 ⟨rfl,rfl⟩
   clear zy
   refine hK.out _ _ (fun _=>?_) (fun zy=>?_)
   ·exact⟨c0,c1,c2⟩
   clear hK K;replace zy:=zy (by decide)
   try simp only[Act.put,zz1,zz2,zz3,zz4,zz5,zz6]
   refine Tk 18 rfl zy ?_
   refine Tk 20 rfl zy ?_
   refine To 21 rfl fun K hK=>?_
   rw[if_pos (by rfl)]
   refine yY _ _ _ rfl g i (zq (p ^^^ Yk u m)) rfl (by show Value.int .u8 (bits .xor .u8 (p.toNat:Int) ((Yk u m).toNat:Int))=_;rw[X.out]) _ _ hB.drew wi (by rw[zf,List.length_set,HU.out];omega) rfl fun w9 kh yL=>?_
   refine Kz hK ?_
   clear hK K
   refine Wd ?_
   clear zy;rw[wM,Sf,← HV.out]at kh;have Ph:=hO.drew.grown yL (by intro e;injection e with e;have:=uK.out;omega);have Hf:=hM.drew.grown yL (by intro e;injection e with e;have:=uK.out;omega);have wk:=z8 (vr hg) yL (.inl rfl);clear yL c0 c1 c2 hB hO hM hg t3 t3' W1 W2 lx PR X;go_wp2_with fail
   go_roundw
   case rel=>exact⟨k+1,by go_num,by omega,kh,Ph,Hf,wk⟩
   case measure=>simp[intOf];omega
  obtain rfl:k=4:=by omega
  rw[show((4:Nat):Int)=4 from rfl]at Wr⊢;rw[S1.out]at hB;clear t1 t2 t1' t2' W0;go_wp2_with fail
  go_roundw
  case rel=>exact⟨i+1,by go_num,by omega,hB,hO,hM,hg⟩
  case measure=>simp[intOf];omega
 obtain rfl:i=16:=by omega
 rw[show((16:Nat):Int)=16 from rfl]at zB⊢;rw[pB,← ae]at hB;go_wp2_with fail
 go_end0
 exact⟨⟨_,rfl⟩,hB,hg⟩
theorem ZT {P:Program}{ops:Array Oper}{Q:Exit→Act→World→Prop}{rest:List Oper}{a:Act}{w:World}{dst:Option Tmp}{d s:Operand}{tys:Array TypeId}{T:TypeId}{pos:String}{af:Array Edge}{g:Option (Nat×Bool)}
  (h:zD (wpList P ops Q (⟨dst,.call { callee:=.builtin .copy,args:=#[d,s],argTypes:=tys },T,pos,af,g⟩::rest) a w)):wpList P ops Q (⟨dst,.call { callee:=.builtin .copy,args:=#[d,s],argTypes:=tys },T,pos,af,g⟩::rest) a w:=h
theorem qu {w:World}{ops:Array Oper}{rest:List Oper}{o:Oper}{a:Act}{Q:Exit→Act→World→Prop}(hgd:o.guard=none) (d s:Operand)
  (ho:o.op=.call { callee:=.builtin .copy,args:=#[d,s],argTypes:=#[23,23] })
  (g off n c:Nat) (hd:a.eval d=.slice (some ⟨g,off,none⟩) n c) (A:Option Addr) (m c':Nat) (news:List UInt8) (hs:a.eval s=.slice A m c') (hm:m=news.length)
  (hr:Src w A (news.map zq)) (yx:news.length≤n) {t:TypeId} {l:List UInt8} (hB:Blk w g t (zj l)) (hfit:off+news.length≤l.length)
  (h:∀ w',Blk w' g t (zj (spl l off news))→w.grownBy w' (some g)→wpList Tryz.prog ops Q rest (a.put o.dst (goInt news.length)) w') :
  wpList Tryz.prog ops Q (o::rest) a w:=by
 subst hm
 by_cases h0:news.length=0
 ·refine wpList_copy_nothing hgd d s _ _ ho 5 Tryz.underlying23 wi _ _ _ _ _ _ hd hs (by rw[h0];simp) ?_
  have hn:news=[]:=List.eq_nil_of_length_eq_zero h0;have:=h w (by rw[hn,spl];simpa using hB) (yt w _);rwa [h0]at this
 obtain⟨b,o2,rfl,hc⟩:=hr (by intro e;rw[List.map_eq_nil_iff]at e;rw[e]at h0;exact h0 rfl);have hl:(news.map zq).length=news.length:=by simp
 refine wpList_copy_own hgd d s _ _ ho 5 Tryz.underlying23 wi g off n c ⟨b,o2,none⟩ _ _ hd hs (zj l) t hB (news.map zq) (by rw[hl];exact(Nat.min_eq_left yx).symm) (fun j v hj=>by rw[Addr.add_mid];exact hc j v hj) (by rw[zf,hl];exact hfit) (by simp[Value.oneCell']) ?_
 rw[hl]
 refine h _ ?_ ⟨rfl,rfl,rfl,by simp[World.setRow],fun k hk wS=>setRow_other w g k _ (fun e=>wS (by rw[e]))⟩
 have e:(zj (spl l off news))=(List.take off (zj l).toList++(List.map zq news++List.drop (off+news.length) (zj l).toList)).toArray:=by
  simp only[zj,spl,List.toList_toArray,List.map_append,List.map_take,List.map_drop,List.append_assoc]
 rw[e]
 exact setRow_heap w g _ _ t _ hB
def oK (S key:List UInt8) (n:Nat):List UInt8:=ws S key n++List.replicate (160-n) 0
theorem eM (S key:List UInt8) (h:key.length=16) {n:Nat}(hn:n≤160):(oK S key n).length=176:=by
 rw[oK,List.length_append,uo _ _ h,List.length_replicate];omega
theorem ZQ (S key:List UInt8) (h:key.length=16) {n j:Nat}(hn:n≤160) (hj:j<16+n):at_ (oK S key n) j=at_ (ws S key 160) j:=by
 have hl:=uo S key h n;rw[nW S key h hn hj,oK,at_,at_,List.getD_eq_getElem?_getD,List.getElem?_append_left (by omega),← List.getD_eq_getElem?_getD]
theorem Um (S key:List UInt8) (h:key.length=16) {n:Nat}(hn:n<160):(oK S key n).set (16+n) (at_ (ws S key 160) (16+n))=oK S key (n+1):=by
 have hl:=uo S key h n;rw[nW S key h (show n+1≤160 by omega) (show 16+n<16+(n+1) by omega)];rw[oK,oK,show ws S key (n+1)=ws S key n++[kS S (ws S key n) (16+n)] from rfl,List.set_append_right _ _ (by omega),hl,Nat.sub_self,show 160-n=(160-(n+1))+1 by omega,List.replicate_succ,List.set_cons_zero,List.append_assoc];rw[at_,List.getD_eq_getElem?_getD,List.getElem?_append_right (by omega),hl]
 simp
def firstT (S key:List UInt8) (i k:Nat):UInt8:=at_ S (at_ (ws S key 160) (16*i-4+(k+1)%4)).toNat ^^^ (if k=0 then rcU (i-1) else 0)
def kT (S key:List UInt8) (i k:Nat):UInt8:=if k<4 then firstT S key i k else at_ (ws S key 160) (16*i+k-4)
theorem jw (S key:List UInt8) (h:key.length=16) {i k:Nat}(hi:1≤i) (oe:i≤10) (hk:k<16) :
  at_ (ws S key 160) (16*i+k)=kT S key i k ^^^ at_ (ws S key 160) (16*(i-1)+k):=by
 obtain⟨n,hn⟩:∃ n,16*(i-1)+k=n:=⟨_,rfl⟩
 obtain⟨m,hm⟩:∃ m,16*i+k=m:=⟨_,rfl⟩
 have hl:=uo S key h n;have E1:=nW S key h (show n+1≤160 by omega) (show m<16+(n+1) by omega);have E2:=nW S key h (show n≤160 by omega) (show n<16+n by omega);have E3:∀ j,j<16+n→at_ (ws S key 160) j=at_ (ws S key n) j:=fun j hj=>nW S key h (show n≤160 by omega) hj
 have e0:at_ (ws S key (n+1)) m=kS S (ws S key n) m:=by
  rw[show ws S key (n+1)=ws S key n++[kS S (ws S key n) (16+n)] from rfl,at_,List.getD_eq_getElem?_getD,List.getElem?_append_right (by omega),hl,show m-(16+n)=0 by omega,show 16+n=m by omega];rfl
 rw[kT,firstT]
 generalize ws S key 160=K at *
 rw[hm,hn,E1,e0,kS,show m-16=n by omega,show m%16=k by omega,show m/16=i by omega,UInt8.xor_comm,← E2];congr 1
 by_cases h4:k<4
 ·rw[if_pos h4,if_pos h4,E3 _ (by omega)]
 rw[if_neg h4,if_neg h4,E3 _ (by omega)]
theorem bG (S key:List UInt8) (h:key.length=16) {i k:Nat}(hi:1≤i) (oe:i≤10) (hk:k<16):kT S key i (k+4)=kT S key i k ^^^ at_ (ws S key 160) (16*(i-1)+k):=by
 rw[← jw S key h hi oe hk];conv=>lhs;rw[kT,if_neg (by omega)]
 rw[show 16*i+(k+4)-4=16*i+k by omega]
structure TRow (S key:List UInt8) (i k:Nat) (l:List UInt8):Prop where
 len:l.length=4
 val:∀ j,k≤j→j<k+4→at_ l (j%4)=kT S key i j
theorem VE (l:List UInt8) (i j:Nat) (u:UInt8) (h:i<l.length):at_ (l.set i u) j=if i=j then u else at_ l j:=by
 simp only[at_,List.getD_eq_getElem?_getD,List.getElem?_set]
 by_cases e:i=j
 ·subst e;simp[h]
 simp[e]
theorem TRow.step {S key:List UInt8}(h:key.length=16) {i k:Nat}(hi:1≤i) (oe:i≤10) (hk:k<16) {l:List UInt8}(hl:TRow S key i k l):TRow S key i (k+1) (l.set (k%4) (at_ (ws S key 160) (16*i+k))) :=
 ⟨by rw[List.length_set];exact hl.len,fun j h1 h2=>by
  rw[VE _ _ _ _ (by rw[hl.len];omega)]
  by_cases e:j=k+4
  ·subst e;rw[if_pos (by omega),jw S key h hi oe hk,bG S key h hi oe hk]
  rw[if_neg (by omega)]
  exact hl.val j (by omega) (by omega)⟩
theorem TRow.start (S key:List UInt8) (i:Nat):TRow S key i 0 [firstT S key i 0,firstT S key i 1,firstT S key i 2,firstT S key i 3] :=
 ⟨rfl,fun j _ h=>by
  obtain rfl | rfl | rfl | rfl:j=0∨j=1∨j=2∨j=3:=by omega
  all_goals rfl⟩
end Go.Proofs.YtliomcphdnppnaaGreatDoor
