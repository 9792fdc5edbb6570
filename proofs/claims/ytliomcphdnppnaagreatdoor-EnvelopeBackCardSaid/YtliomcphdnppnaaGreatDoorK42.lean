/- squeezed. Walks: the columns of AES are mixe -/
import Derived.Test.YtliomcphdnppnaaGreatDoorK41
import Derived.Laws.CopyOwn
set_option linter.unusedVariables false
set_option linter.unusedSimpArgs false
set_option maxRecDepth 100000
set_option maxHeartbeats 6400000
namespace Go.Proofs.YtliomcphdnppnaaGreatDoor
open Go.RowKit
theorem jcS{P:Prop}(h:P:=by simp only[zf,spl,List.toList_toArray,List.map_append,List.map_take,List.map_drop,List.append_assoc]):P:=h
def qB (l:List UInt8) (i:Nat):Nat→UInt8
 | 0=>0
 | k+1=>qB l i k ^^^ Sp l i k
theorem VE (l:List UInt8):mU l=(List.range 16).map fun i=>qB l i 4:=rfl
def Z5:Array Value:=#[.int .u8 2,.int .u8 3,.int .u8 1,.int .u8 1]
theorem NP {k:Nat}(h:k<4):Z5[k]? = some (.int .u8 (([2,3,1,1].getD k 0:Nat):Int)):=by
 obtain rfl | rfl | rfl | rfl:k=0∨k=1∨k=2∨k=3:=by omega
 all_goals rfl
theorem KH {k:Nat}(h:k<4):[2,3,1,1].getD k 0=1∨[2,3,1,1].getD k 0=2∨[2,3,1,1].getD k 0=3:=by
 obtain rfl | rfl | rfl | rfl:k=0∨k=1∨k=2∨k=3:=by omega
 all_goals decide
theorem Kk (l:List UInt8) (i:Nat) (a b:UInt8):(l.set i a).set i b=l.set i b:=by simp
theorem Ji {g:Nat}{t:TypeId}{l:List UInt8}(hl:l.length=16) (w:World) (hB:Blk w g t (zf l)) :
  Calls Tryz.prog 154 #[.pointer (some ⟨g,0,none⟩),.agg Z5] w fun e w'=>(∃ v,e=.returned v)∧Blk w' g t (zf (mU l))∧w.grownBy w' (some g):=by
 have hM:=(Blk.new w 167 Z5).alloc (.cells (zf (List.replicate 16 0)) 123);have hz:=Blk.new (w.alloc (.cells Z5 167)) 123 (zf (List.replicate 16 0));rw[zr]at hz;have gm:w.grownBy ((w.alloc (.cells Z5 167)).alloc (.cells (zf (List.replicate 16 0)) 123)) (some g):=xZ (xZ (ym w _) _) _;have sU:=Hh hB.lt;have gG:=hB.alloc (.cells Z5 167);have xX:=gG.alloc (.cells (zf (List.replicate 16 0)) 123);rw[← qT (fun i=>qB l i 4) hl]at xX;have HL:=Hh hl;clear hB;go_enter Tryz.func154,Tryz.ntmps154
 go_wp2_with (with_reducible refine tE 123 ?_)
 refine yM rfl _ _ rfl g 0 16 rfl gG (by omega) _ Tryz.underlying123 rfl (by kernel_rfl) ?_
 rw[uu hl];go_wp2_with (with_reducible refine zx ?_)
 refine zv rfl _ _ _ rfl rfl (w.heap.size+1) (zf l) rfl rfl _ _ hz (by rw[zX,hl];kernel_rfl) (by rw[zX,hl];rfl) (xI _) fun w2 hO sv=>?_
 replace xX:=xX.grown sv (by intro e;injection e with e;have:=sU.out;omega);replace hM:=hM.gr sv (by omega);replace gm:=zK gm sv (.inr ⟨_,rfl,by omega⟩);clear gG hl hz sv;go_wp2_with fail
 go_loopw [12] (fun v12 wr=>∃ i:Nat,v12=.int .i64 (i:Int)∧i≤16∧Blk wr g t (zf (te 16 (fun i=>qB l i 4) l i))∧Blk wr (w.heap.size+1) 123 (zf l)∧Blk wr w.heap.size 167 Z5∧w.grownBy wr (some g)) (fun v12 _=>(16-intOf v12).toNat)
 case atStart=>exact⟨0,rfl,by omega,xX,hO,hM,gm⟩
 case round =>
 clear xX hO hM gm;obtain⟨i,rfl,hi,hB,hO,hM,hg⟩:=hrel
 by_cases yu:(i:Int)<16
 ·obtain⟨r,hr⟩:∃ r,i%4=r:=⟨_,rfl⟩
  obtain⟨c,hc⟩:∃ c,i/4=c:=⟨_,rfl⟩
  obtain⟨c4,T7⟩:∃ e,4*c=e:=⟨_,rfl⟩
  have t1:(i:Int).tmod 4=(r:Int):=by rw[← hr];exact(Int.ofNat_tmod i 4).symm
  have t2:(i:Int).tdiv 4=(c:Int):=by rw[← hc];exact(Int.ofNat_tdiv i 4).symm
  have t1':(i:Int)%4=(r:Int):=by rw[← hr];omega
  have t2':(i:Int)/4=(c:Int):=by rw[← hc];omega
  have W0:IntKind.i64.wrap (4*(c:Int))=(c4:Int):=by rw[show 4*(c:Int)=((4*c:Nat):Int) by omega,T7];exact vN (by omega)
  have HI:=Hh (And.intro hr (And.intro hc T7));obtain⟨U,hU⟩:∃ U,te 16 (fun i=>qB l i 4) l i=U:=⟨_,rfl⟩
  have S1:Hid (U.set i (qB l i 4)=te 16 (fun i=>qB l i 4) l (i+1)):=by rw[← hU];exact qS (fun i=>qB l i 4) l (by omega)
  have HU:Hid (U.length=16):=by rw[← hU];exact tN _ _ _ _
  rw[hU]at hB;clear hr hc T7 hU;go_wp2_with (with_reducible refine zx ?_)
  refine zj rfl _ _ _ rfl rfl g i (zm (qB l i 0)) rfl rfl _ _ hB wD (by rw[zX,HU.out];omega) rfl fun w5 oa xv=>?_
  rw[ut]at oa;have wg:=hO.grown xv (by intro e;injection e with e;have:=sU.out;omega);have hM5:=hM.grown xv (by intro e;injection e with e;have:=sU.out;omega);have ws:=zK hg xv (.inl rfl);clear hB hO hM hg xv;go_wp2_with fail
  go_loopw [23] (fun v23 wx=>∃ k:Nat,v23=.int .i64 (k:Int)∧k≤4∧Blk wx g t (zf (U.set i (qB l i k)))∧Blk wx (w.heap.size+1) 123 (zf l)∧Blk wx w.heap.size 167 Z5∧w.grownBy wx (some g)) (fun v23 _=>(4-intOf v23).toNat)
  case atStart=>exact⟨0,rfl,by omega,oa,wg,hM5,ws⟩
  case round =>
  clear oa wg hM5 ws;obtain⟨k,rfl,hk,hB,hO,hM,hg⟩:=hrel
  by_cases QU:(k:Int)<4
  ·obtain⟨e,he⟩:∃ e,r+k=e:=⟨_,rfl⟩
   obtain⟨q,hq⟩:∃ q,e%4=q:=⟨_,rfl⟩
   obtain⟨x,hx⟩:∃ x,c4+q=x:=⟨_,rfl⟩
   have W1:IntKind.i64.wrap ((r:Int)+(k:Int))=(e:Int):=by rw[← Int.natCast_add,he];exact vN (by have:=HI.out.1;omega)
   have t3:(e:Int).tmod 4=(q:Int):=by rw[← hq];exact(Int.ofNat_tmod e 4).symm
   have t3':(e:Int)%4=(q:Int):=by rw[← hq];omega
   have W2:IntKind.i64.wrap ((c4:Int)+(q:Int))=(x:Int):=by rw[← Int.natCast_add,hx];exact vN (by have:=HI.out;omega)
   have lx:(x:Int)<16:=by have:=HI.out;omega
   obtain⟨u,hu⟩:∃ u,at_ l x=u:=⟨_,rfl⟩
   obtain⟨m,hm⟩:∃ m,[2,3,1,1].getD k 0=m:=⟨_,rfl⟩
   obtain⟨p,hp⟩:∃ p,qB l i k=p:=⟨_,rfl⟩
   have HV:Hid (qB l i (k+1)=p ^^^ Sq u m):=by
    rw[Hid,qB,hp,Sp,HI.out.1,HI.out.2.1,HI.out.2.2,he,hq,hx,hu,hm]
   have c0:=hO.drew.cell x (xf _ _ (by have:=HL.out;omega));have c1:=hM.drew.cell k (NP (by omega));have c2:=hB.drew.cell i (xf _ _ (by rw[List.length_set,HU.out];omega));have hmo:=KH (show k<4 by omega);rw[show at_ (U.set i (qB l i k)) i=qB l i k by simp[at_,List.getD_eq_getElem?_getD,show i<U.length by rw[HU.out];omega],hp]at c2;rw[hu]at c0;rw[hm]at c1 hmo;have PR:=Hh (X9 u m hmo);have X:=Hh (wE p (Sq u m));clear he hq hx hu hm hp hmo;go_upto_region 10 with fail
   refine zw 21 (fun wx=>wx.cell? ⟨w.heap.size+1,x,none⟩=some (zm u)∧wx.cell? ⟨w.heap.size,k,none⟩=some (.int .u8 (m:Int))∧wx.cell? ⟨g,i,none⟩=some (zm p)) (by kernel_rfl) (⟨c0,c1,c2⟩) (fun zy=>?_)
   refine Tk 0 rfl zy ?_
   refine Tk 1 rfl zy ?_
   refine Tk 2 rfl zy ?_
   refine Tk 3 rfl zy ?_
   refine Tk 4 rfl zy ?_
   refine Tk 5 rfl zy ?_
   refine Tk 6 rfl zy ?_
   refine Tk 7 rfl zy ?_
   refine Tk 8 rfl zy ?_
   refine Tk 9 rfl zy ?_
   refine Tk 10 rfl zy ?_
   refine Tk 11 rfl zy ?_
   refine Tk 12 rfl zy ?_
   refine Tk 13 rfl zy ?_
   refine Tk 14 rfl zy ?_
   refine Tk 15 rfl zy ?_
   refine Tk 16 rfl zy ?_
   refine Tk 19 rfl zy ?_
   refine To 17 rfl fun K hK=>?_
   go_simp
   refine(PR.out _).mono ?_
   rintro e w7 ⟨rfl,rfl⟩
   clear zy
   refine hK.out _ _ (fun _=>?_) (fun zy=>?_)
   ·exact⟨c0,c1,c2⟩
   clear hK K;replace zy:=zy (by decide)
   try simp only[Act.put,zz1,zz2,zz3,zz4,zz5,zz6]
   refine Tk 18 rfl zy ?_
   refine Tk 20 rfl zy ?_
   refine To 21 rfl fun K hK=>?_
   rw[if_pos (by rfl)]
   refine xt _ _ _ rfl g i (zm (p ^^^ Sq u m)) rfl (by show Value.int .u8 (bits .xor .u8 (p.toNat:Int) ((Sq u m).toNat:Int))=_;rw[X.out]) _ _ hB.drew wD (by rw[zX,List.length_set,HU.out];omega) rfl fun w9 fR xR=>?_
   refine Kz hK ?_
   clear hK K
   refine Wd ?_
   clear zy;rw[ut,Kk,← HV.out]at fR;have iV:=hO.drew.grown xR (by intro e;injection e with e;have:=sU.out;omega);have zAN:=hM.drew.grown xR (by intro e;injection e with e;have:=sU.out;omega);have xW:=zK (vG hg) xR (.inl rfl);clear xR c0 c1 c2 hB hO hM hg t3 t3' W1 W2 lx PR X;go_wp2_with fail
   go_roundw
   case rel=>exact⟨k+1,by go_num,by omega,fR,iV,zAN,xW⟩
   case measure=>simp[intOf];omega
  obtain rfl:k=4:=by omega
  rw[show((4:Nat):Int)=4 from rfl]at QU⊢;rw[S1.out]at hB;clear t1 t2 t1' t2' W0;go_wp2_with fail
  go_roundw
  case rel=>exact⟨i+1,by go_num,by omega,hB,hO,hM,hg⟩
  case measure=>simp[intOf];omega
 obtain rfl:i=16:=by omega
 rw[show((16:Nat):Int)=16 from rfl]at yu⊢;rw[lW,← VE]at hB;exact jcl
theorem Tu {P:Program}{ops:Array Oper}{Q:Exit→Act→World→Prop}{rest:List Oper}{a:Act}{w:World}{dst:Option Tmp}{d s:Operand}{tys:Array TypeId}{T:TypeId}{pos:String}{af:Array Edge}{g:Option (Nat×Bool)}
  (h:zC (wpList P ops Q (⟨dst,.call { callee:=.builtin .copy,args:=#[d,s],argTypes:=tys },T,pos,af,g⟩::rest) a w)):wpList P ops Q (⟨dst,.call { callee:=.builtin .copy,args:=#[d,s],argTypes:=tys },T,pos,af,g⟩::rest) a w:=h
theorem oI {w:World}{ops:Array Oper}{rest:List Oper}{o:Oper}{a:Act}{Q:Exit→Act→World→Prop}(hgd:o.guard=none) (d s:Operand)
  (ho:o.op=.call { callee:=.builtin .copy,args:=#[d,s],argTypes:=#[23,23] })
  (g off n c:Nat) (hd:a.eval d=.slice (some ⟨g,off,none⟩) n c) (A:Option Addr) (m c':Nat) (news:List UInt8) (hs:a.eval s=.slice A m c') (hm:m=news.length)
  (hr:Src w A (news.map zm)) (yw:news.length≤n) {t:TypeId} {l:List UInt8} (hB:Blk w g t (zf l)) (hfit:off+news.length≤l.length)
  (h:∀ w',Blk w' g t (zf (spl l off news))→w.grownBy w' (some g)→wpList Tryz.prog ops Q rest (a.put o.dst (goInt news.length)) w') :
  wpList Tryz.prog ops Q (o::rest) a w:=by
 subst hm
 by_cases h0:news.length=0
 ·refine wpList_copy_nothing hgd d s _ _ ho 5 Tryz.underlying23 wD _ _ _ _ _ _ hd hs (by rw[h0];simp) ?_
  have hn:news=[]:=List.eq_nil_of_length_eq_zero h0;have:=h w (by rw[hn,spl];simpa using hB) (ym w _);rwa [h0]at this
 obtain⟨b,o2,rfl,hc⟩:=hr (by intro e;rw[List.map_eq_nil_iff]at e;rw[e]at h0;exact h0 rfl);have hl:(news.map zm).length=news.length:=by simp
 refine wpList_copy_own hgd d s _ _ ho 5 Tryz.underlying23 wD g off n c ⟨b,o2,none⟩ _ _ hd hs (zf l) t hB (news.map zm) (by rw[hl];exact(Nat.min_eq_left yw).symm) (fun j v hj=>by rw[Addr.add_mid];exact hc j v hj) (by rw[zX,hl];exact hfit) (by simp[Value.oneCell']) ?_
 rw[hl]
 refine h _ ?_ ⟨rfl,rfl,rfl,by simp[World.setRow],fun k hk vl=>setRow_other w g k _ (fun e=>vl (by rw[e]))⟩
 have e:(zf (spl l off news))=(List.take off (zf l).toList++(List.map zm news++List.drop (off+news.length) (zf l).toList)).toArray:=by
  exact jcS
 rw[e]
 exact setRow_heap w g _ _ t _ hB
def kY (S key:List UInt8) (n:Nat):List UInt8:=vh S key n++List.replicate (160-n) 0
theorem Yh (S key:List UInt8) (h:key.length=16) {n:Nat}(hn:n≤160):(kY S key n).length=176:=by
 rw[kY,List.length_append,tK _ _ h,List.length_replicate];omega
theorem Tr (S key:List UInt8) (h:key.length=16) {n j:Nat}(hn:n≤160) (hj:j<16+n):at_ (kY S key n) j=at_ (vh S key 160) j:=by
 have hl:=tK S key h n;rw[jg S key h hn hj,kY,at_,at_,List.getD_eq_getElem?_getD,List.getElem?_append_left (by omega),← List.getD_eq_getElem?_getD]
theorem Nu (S key:List UInt8) (h:key.length=16) {n:Nat}(hn:n<160):(kY S key n).set (16+n) (at_ (vh S key 160) (16+n))=kY S key (n+1):=by
 have hl:=tK S key h n;rw[jg S key h (show n+1≤160 by omega) (show 16+n<16+(n+1) by omega)];rw[kY,kY,show vh S key (n+1)=vh S key n++[fE S (vh S key n) (16+n)] from rfl,List.set_append_right _ _ (by omega),hl,Nat.sub_self,show 160-n=(160-(n+1))+1 by omega,List.replicate_succ,List.set_cons_zero,List.append_assoc];rw[at_,List.getD_eq_getElem?_getD,List.getElem?_append_right (by omega),hl]
 simp
def firstT (S key:List UInt8) (i k:Nat):UInt8:=at_ S (at_ (vh S key 160) (16*i-4+(k+1)%4)).toNat ^^^ (if k=0 then rcU (i-1) else 0)
def fG (S key:List UInt8) (i k:Nat):UInt8:=if k<4 then firstT S key i k else at_ (vh S key 160) (16*i+k-4)
theorem eW (S key:List UInt8) (h:key.length=16) {i k:Nat}(hi:1≤i) (pi:i≤10) (hk:k<16) :
  at_ (vh S key 160) (16*i+k)=fG S key i k ^^^ at_ (vh S key 160) (16*(i-1)+k):=by
 obtain⟨n,hn⟩:∃ n,16*(i-1)+k=n:=⟨_,rfl⟩
 obtain⟨m,hm⟩:∃ m,16*i+k=m:=⟨_,rfl⟩
 have hl:=tK S key h n;have E1:=jg S key h (show n+1≤160 by omega) (show m<16+(n+1) by omega);have E2:=jg S key h (show n≤160 by omega) (show n<16+n by omega);have E3:∀ j,j<16+n→at_ (vh S key 160) j=at_ (vh S key n) j:=fun j hj=>jg S key h (show n≤160 by omega) hj
 have e0:at_ (vh S key (n+1)) m=fE S (vh S key n) m:=by
  rw[show vh S key (n+1)=vh S key n++[fE S (vh S key n) (16+n)] from rfl,at_,List.getD_eq_getElem?_getD,List.getElem?_append_right (by omega),hl,show m-(16+n)=0 by omega,show 16+n=m by omega];rfl
 rw[fG,firstT]
 generalize vh S key 160=K at *
 rw[hm,hn,E1,e0,fE,show m-16=n by omega,show m%16=k by omega,show m/16=i by omega,UInt8.xor_comm,← E2];congr 1
 by_cases h4:k<4
 ·rw[if_pos h4,if_pos h4,E3 _ (by omega)]
 rw[if_neg h4,if_neg h4,E3 _ (by omega)]
theorem Vm (S key:List UInt8) (h:key.length=16) {i k:Nat}(hi:1≤i) (pi:i≤10) (hk:k<16):fG S key i (k+4)=fG S key i k ^^^ at_ (vh S key 160) (16*(i-1)+k):=by
 rw[← eW S key h hi pi hk];conv=>lhs;rw[fG,if_neg (by omega)]
 rw[show 16*i+(k+4)-4=16*i+k by omega]
structure TRow (S key:List UInt8) (i k:Nat) (l:List UInt8):Prop where
 len:l.length=4
 val:∀ j,k≤j→j<k+4→at_ l (j%4)=fG S key i j
theorem OM (l:List UInt8) (i j:Nat) (u:UInt8) (h:i<l.length):at_ (l.set i u) j=if i=j then u else at_ l j:=by
 simp only[at_,List.getD_eq_getElem?_getD,List.getElem?_set]
 by_cases e:i=j
 ·subst e;simp[h]
 simp[e]
theorem TRow.step {S key:List UInt8}(h:key.length=16) {i k:Nat}(hi:1≤i) (pi:i≤10) (hk:k<16) {l:List UInt8}(hl:TRow S key i k l):TRow S key i (k+1) (l.set (k%4) (at_ (vh S key 160) (16*i+k))) :=
 ⟨by rw[List.length_set];exact hl.len,fun j h1 h2=>by
  rw[OM _ _ _ _ (by rw[hl.len];omega)]
  by_cases e:j=k+4
  ·subst e;rw[if_pos (by omega),eW S key h hi pi hk,Vm S key h hi pi hk]
  rw[if_neg (by omega)]
  exact hl.val j (by omega) (by omega)⟩
theorem TRow.start (S key:List UInt8) (i:Nat):TRow S key i 0 [firstT S key i 0,firstT S key i 1,firstT S key i 2,firstT S key i 3] :=
 ⟨rfl,fun j _ h=>by
  obtain rfl | rfl | rfl | rfl:j=0∨j=1∨j=2∨j=3:=by omega
  all_goals rfl⟩
end Go.Proofs.YtliomcphdnppnaaGreatDoor
