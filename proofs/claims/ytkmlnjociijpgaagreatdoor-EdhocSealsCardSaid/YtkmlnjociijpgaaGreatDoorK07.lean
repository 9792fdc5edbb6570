/- squeezed. Walks: the columns of AES are mixe -/
import Derived.Test.YtkmlnjociijpgaaGreatDoorK06
import Derived.Laws.CopyOwn
set_option linter.unusedVariables false
set_option linter.unusedSimpArgs false
set_option maxRecDepth 100000
set_option maxHeartbeats 6400000
namespace Go.Proofs.YtkmlnjociijpgaaGreatDoor
open Go.RowKit
theorem jcN{P:Prop}(h:P:=by simp only[zn,spl,List.toList_toArray,List.map_append,List.map_take,List.map_drop,List.append_assoc]):P:=h
def rH (l:List UInt8) (i:Nat):Nat→UInt8
 | 0=>0
 | k+1=>rH l i k ^^^ iE l i k
theorem XC (l:List UInt8):vQ l=(List.range 16).map fun i=>rH l i 4:=rfl
def pX:Array Value:=#[.int .u8 2,.int .u8 3,.int .u8 1,.int .u8 1]
theorem Zd {k:Nat}(h:k<4):pX[k]? = some (.int .u8 (([2,3,1,1].getD k 0:Nat):Int)):=by
 obtain rfl | rfl | rfl | rfl:k=0∨k=1∨k=2∨k=3:=by omega
 all_goals rfl
theorem Vi {k:Nat}(h:k<4):[2,3,1,1].getD k 0=1∨[2,3,1,1].getD k 0=2∨[2,3,1,1].getD k 0=3:=by
 obtain rfl | rfl | rfl | rfl:k=0∨k=1∨k=2∨k=3:=by omega
 all_goals decide
theorem Vs (l:List UInt8) (i:Nat) (a b:UInt8):(l.set i a).set i b=l.set i b:=by simp
theorem N3 {g:Nat}{t:TypeId}{l:List UInt8}(hl:l.length=16) (w:World) (hB:Blk w g t (zn l)) :
  Calls Tryz.prog 192 #[.pointer (some ⟨g,0,none⟩),.agg pX] w fun e w'=>(∃ v,e=.returned v)∧Blk w' g t (zn (vQ l))∧w.grownBy w' (some g):=by
 have hM:=(Blk.new w 190 pX).alloc (.cells (zn (List.replicate 16 0)) 155);have hz:=Blk.new (w.alloc (.cells pX 190)) 155 (zn (List.replicate 16 0));rw[za]at hz;have iJ:w.grownBy ((w.alloc (.cells pX 190)).alloc (.cells (zn (List.replicate 16 0)) 155)) (some g):=rz (rz (yN w _) _) _;have uH:=Hh hB.lt;have kT:=hB.alloc (.cells pX 190);have qF:=kT.alloc (.cells (zn (List.replicate 16 0)) 155);rw[← wW (fun i=>rH l i 4) hl]at qF;have HL:=Hh hl;clear hB;go_enter Tryz.func192,Tryz.ntmps192
 go_wp2_with (with_reducible refine vy 155 ?_)
 refine zM rfl _ _ rfl g 0 16 rfl kT (by omega) _ Tryz.underlying155 rfl (by kernel_rfl) ?_
 rw[xT hl];go_wp2_with (with_reducible refine zx ?_)
 refine zm rfl _ _ _ rfl rfl (w.heap.size+1) (zn l) rfl rfl _ _ hz (by rw[zg,hl];kernel_rfl) (by rw[zg,hl];rfl) (ym _) fun w2 hO hg2=>?_
 replace qF:=qF.grown hg2 (by intro e;injection e with e;have:=uH.out;omega);replace hM:=hM.gr hg2 (by omega);replace iJ:=zG iJ hg2 (.inr ⟨_,rfl,by omega⟩);clear kT hl hz hg2;go_wp2_with fail
 go_loopw [12] (fun v12 wr=>∃ i:Nat,v12=.int .i64 (i:Int)∧i≤16∧Blk wr g t (zn (wB 16 (fun i=>rH l i 4) l i))∧Blk wr (w.heap.size+1) 155 (zn l)∧Blk wr w.heap.size 190 pX∧w.grownBy wr (some g)) (fun v12 _=>(16-intOf v12).toNat)
 case atStart=>exact⟨0,rfl,by omega,qF,hO,hM,iJ⟩
 case round =>
 clear qF hO hM iJ;obtain⟨i,rfl,hi,hB,hO,hM,hg⟩:=hrel
 by_cases z9:(i:Int)<16
 ·obtain⟨r,hr⟩:∃ r,i%4=r:=⟨_,rfl⟩
  obtain⟨c,hc⟩:∃ c,i/4=c:=⟨_,rfl⟩
  obtain⟨c4,eF⟩:∃ e,4*c=e:=⟨_,rfl⟩
  have t1:(i:Int).tmod 4=(r:Int):=by rw[← hr];exact(Int.ofNat_tmod i 4).symm
  have t2:(i:Int).tdiv 4=(c:Int):=by rw[← hc];exact(Int.ofNat_tdiv i 4).symm
  have t1':(i:Int)%4=(r:Int):=by rw[← hr];omega
  have t2':(i:Int)/4=(c:Int):=by rw[← hc];omega
  have W0:IntKind.i64.wrap (4*(c:Int))=(c4:Int):=by rw[show 4*(c:Int)=((4*c:Nat):Int) by omega,eF];exact zP (by omega)
  have HI:=Hh (And.intro hr (And.intro hc eF));obtain⟨U,hU⟩:∃ U,wB 16 (fun i=>rH l i 4) l i=U:=⟨_,rfl⟩
  have S1:Hid (U.set i (rH l i 4)=wB 16 (fun i=>rH l i 4) l (i+1)):=by rw[← hU];exact uy (fun i=>rH l i 4) l (by omega)
  have HU:Hid (U.length=16):=by rw[← hU];exact xJ _ _ _ _
  rw[hU]at hB;clear hr hc eF hU;go_wp2_with (with_reducible refine zx ?_)
  refine zw rfl _ _ _ rfl rfl g i (zu (rH l i 0)) rfl rfl _ _ hB yH (by rw[zg,HU.out];omega) rfl fun w5 ts zK=>?_
  rw[xS]at ts;have zW:=hO.grown zK (by intro e;injection e with e;have:=uH.out;omega);have Ac:=hM.grown zK (by intro e;injection e with e;have:=uH.out;omega);have vt:=zG hg zK (.inl rfl);clear hB hO hM hg zK;go_wp2_with fail
  go_loopw [23] (fun v23 wx=>∃ k:Nat,v23=.int .i64 (k:Int)∧k≤4∧Blk wx g t (zn (U.set i (rH l i k)))∧Blk wx (w.heap.size+1) 155 (zn l)∧Blk wx w.heap.size 190 pX∧w.grownBy wx (some g)) (fun v23 _=>(4-intOf v23).toNat)
  case atStart=>exact⟨0,rfl,by omega,ts,zW,Ac,vt⟩
  case round =>
  clear ts zW Ac vt;obtain⟨k,rfl,hk,hB,hO,hM,hg⟩:=hrel
  by_cases ae:(k:Int)<4
  ·obtain⟨e,he⟩:∃ e,r+k=e:=⟨_,rfl⟩
   obtain⟨q,hq⟩:∃ q,e%4=q:=⟨_,rfl⟩
   obtain⟨x,hx⟩:∃ x,c4+q=x:=⟨_,rfl⟩
   have W1:IntKind.i64.wrap ((r:Int)+(k:Int))=(e:Int):=by rw[← Int.natCast_add,he];exact zP (by have:=HI.out.1;omega)
   have t3:(e:Int).tmod 4=(q:Int):=by rw[← hq];exact(Int.ofNat_tmod e 4).symm
   have t3':(e:Int)%4=(q:Int):=by rw[← hq];omega
   have W2:IntKind.i64.wrap ((c4:Int)+(q:Int))=(x:Int):=by rw[← Int.natCast_add,hx];exact zP (by have:=HI.out;omega)
   have lx:(x:Int)<16:=by have:=HI.out;omega
   obtain⟨u,hu⟩:∃ u,at_ l x=u:=⟨_,rfl⟩
   obtain⟨m,hm⟩:∃ m,[2,3,1,1].getD k 0=m:=⟨_,rfl⟩
   obtain⟨p,hp⟩:∃ p,rH l i k=p:=⟨_,rfl⟩
   have HV:Hid (rH l i (k+1)=p ^^^ qN u m):=by
    rw[Hid,rH,hp,iE,HI.out.1,HI.out.2.1,HI.out.2.2,he,hq,hx,hu,hm]
   have c0:=hO.drew.cell x (zI _ _ (by have:=HL.out;omega));have c1:=hM.drew.cell k (Zd (by omega));have c2:=hB.drew.cell i (zI _ _ (by rw[List.length_set,HU.out];omega));have M9:=Vi (show k<4 by omega);rw[show at_ (U.set i (rH l i k)) i=rH l i k by simp[at_,List.getD_eq_getElem?_getD,show i<U.length by rw[HU.out];omega],hp]at c2;rw[hu]at c0;rw[hm]at c1 M9;have PR:=Hh (Yc u m M9);have X:=Hh (yx p (qN u m));clear he hq hx hu hm hp M9;go_upto_region 10 with fail
   refine zr 21 (fun wx=>wx.cell? ⟨w.heap.size+1,x,none⟩=some (zu u)∧wx.cell? ⟨w.heap.size,k,none⟩=some (.int .u8 (m:Int))∧wx.cell? ⟨g,i,none⟩=some (zu p)) (by kernel_rfl) (⟨c0,c1,c2⟩) (fun zy=>?_)
   refine Tk 0 rfl zy ?_
   refine Tk 1 rfl zy ?_
   refine Tk 2 rfl zy ?_
   refine Tk 3 rfl zy ?_
   refine Tk 4 rfl zy ?_
   refine Tk 5 rfl zy ?_
   refine Tk 6 rfl zy ?_
   refine Tk 7 rfl zy ?_
   refine Tk 8 rfl zy ?_
   refine Tk 9 rfl zy ?_
   refine Tk 10 rfl zy ?_
   refine Tk 11 rfl zy ?_
   refine Tk 12 rfl zy ?_
   refine Tk 13 rfl zy ?_
   refine Tk 14 rfl zy ?_
   refine Tk 15 rfl zy ?_
   refine Tk 16 rfl zy ?_
   refine Tk 19 rfl zy ?_
   refine To 17 rfl fun K hK=>?_
   go_simp
   refine(PR.out _).mono ?_
   rintro e w7 ⟨rfl,rfl⟩
   clear zy
   refine hK.out _ _ (fun _=>?_) (fun zy=>?_)
   ·exact⟨c0,c1,c2⟩
   clear hK K;replace zy:=zy (by decide)
   try simp only[Act.put,zz1,zz2,zz3,zz4,zz5,zz6]
   refine Tk 18 rfl zy ?_
   refine Tk 20 rfl zy ?_
   refine To 21 rfl fun K hK=>?_
   rw[if_pos (by rfl)]
   refine zO _ _ _ rfl g i (zu (p ^^^ qN u m)) rfl (by show Value.int .u8 (bits .xor .u8 (p.toNat:Int) ((qN u m).toNat:Int))=_;rw[X.out]) _ _ hB.drew yH (by rw[zg,List.length_set,HU.out];omega) rfl fun w9 iX xt=>?_
   refine Kz hK ?_
   clear hK K
   refine Wd ?_
   clear zy;rw[xS,Vs,← HV.out]at iX;have wO:=hO.drew.grown xt (by intro e;injection e with e;have:=uH.out;omega);have L5:=hM.drew.grown xt (by intro e;injection e with e;have:=uH.out;omega);have yn:=zG (sR hg) xt (.inl rfl);clear xt c0 c1 c2 hB hO hM hg t3 t3' W1 W2 lx PR X;go_wp2_with fail
   go_roundw
   case rel=>exact⟨k+1,by go_num,by omega,iX,wO,L5,yn⟩
   case measure=>simp[intOf];omega
  obtain rfl:k=4:=by omega
  rw[show((4:Nat):Int)=4 from rfl]at ae⊢;rw[S1.out]at hB;clear t1 t2 t1' t2' W0;go_wp2_with fail
  go_roundw
  case rel=>exact⟨i+1,by go_num,by omega,hB,hO,hM,hg⟩
  case measure=>simp[intOf];omega
 obtain rfl:i=16:=by omega
 rw[show((16:Nat):Int)=16 from rfl]at z9⊢;rw[tN,← XC]at hB;exact jcj
theorem Vu {P:Program}{ops:Array Oper}{Q:Exit→Act→World→Prop}{rest:List Oper}{a:Act}{w:World}{dst:Option Tmp}{d s:Operand}{tys:Array TypeId}{T:TypeId}{pos:String}{af:Array Edge}{g:Option (Nat×Bool)}
  (h:zZ (wpList P ops Q (⟨dst,.call { callee:=.builtin .copy,args:=#[d,s],argTypes:=tys },T,pos,af,g⟩::rest) a w)):wpList P ops Q (⟨dst,.call { callee:=.builtin .copy,args:=#[d,s],argTypes:=tys },T,pos,af,g⟩::rest) a w:=h
theorem pi {w:World}{ops:Array Oper}{rest:List Oper}{o:Oper}{a:Act}{Q:Exit→Act→World→Prop}(hgd:o.guard=none) (d s:Operand)
  (ho:o.op=.call { callee:=.builtin .copy,args:=#[d,s],argTypes:=#[22,22] })
  (g off n c:Nat) (hd:a.eval d=.slice (some ⟨g,off,none⟩) n c) (A:Option Addr) (m c':Nat) (news:List UInt8) (hs:a.eval s=.slice A m c') (hm:m=news.length)
  (hr:Src w A (news.map zu)) (mN:news.length≤n) {t:TypeId} {l:List UInt8} (hB:Blk w g t (zn l)) (hfit:off+news.length≤l.length)
  (h:∀ w',Blk w' g t (zn (spl l off news))→w.grownBy w' (some g)→wpList Tryz.prog ops Q rest (a.put o.dst (goInt news.length)) w') :
  wpList Tryz.prog ops Q (o::rest) a w:=by
 subst hm
 by_cases h0:news.length=0
 ·refine wpList_copy_nothing hgd d s _ _ ho 5 Tryz.underlying22 yH _ _ _ _ _ _ hd hs (by rw[h0];simp) ?_
  have hn:news=[]:=List.eq_nil_of_length_eq_zero h0;have:=h w (by rw[hn,spl];simpa using hB) (yN w _);rwa [h0]at this
 obtain⟨b,o2,rfl,hc⟩:=hr (by intro e;rw[List.map_eq_nil_iff]at e;rw[e]at h0;exact h0 rfl);have hl:(news.map zu).length=news.length:=by simp
 refine wpList_copy_own hgd d s _ _ ho 5 Tryz.underlying22 yH g off n c ⟨b,o2,none⟩ _ _ hd hs (zn l) t hB (news.map zu) (by rw[hl];exact(Nat.min_eq_left mN).symm) (fun j v hj=>by rw[Addr.add_mid];exact hc j v hj) (by rw[zg,hl];exact hfit) (by simp[Value.oneCell']) ?_
 rw[hl]
 refine h _ ?_ ⟨rfl,rfl,rfl,by simp[World.setRow],fun k hk xp=>setRow_other w g k _ (fun e=>xp (by rw[e]))⟩
 have e:(zn (spl l off news))=(List.take off (zn l).toList++(List.map zu news++List.drop (off+news.length) (zn l).toList)).toArray:=by
  exact jcN
 rw[e]
 exact setRow_heap w g _ _ t _ hB
def mK (S key:List UInt8) (n:Nat):List UInt8:=yG S key n++List.replicate (160-n) 0
theorem Zz (S key:List UInt8) (h:key.length=16) {n:Nat}(hn:n≤160):(mK S key n).length=176:=by
 rw[mK,List.length_append,vx _ _ h,List.length_replicate];omega
theorem Vr (S key:List UInt8) (h:key.length=16) {n j:Nat}(hn:n≤160) (hj:j<16+n):at_ (mK S key n) j=at_ (yG S key 160) j:=by
 have hl:=vx S key h n;rw[pE S key h hn hj,mK,at_,at_,List.getD_eq_getElem?_getD,List.getElem?_append_left (by omega),← List.getD_eq_getElem?_getD]
theorem QS (S key:List UInt8) (h:key.length=16) {n:Nat}(hn:n<160):(mK S key n).set (16+n) (at_ (yG S key 160) (16+n))=mK S key (n+1):=by
 have hl:=vx S key h n;rw[pE S key h (show n+1≤160 by omega) (show 16+n<16+(n+1) by omega)];rw[mK,mK,show yG S key (n+1)=yG S key n++[jh S (yG S key n) (16+n)] from rfl,List.set_append_right _ _ (by omega),hl,Nat.sub_self,show 160-n=(160-(n+1))+1 by omega,List.replicate_succ,List.set_cons_zero,List.append_assoc];rw[at_,List.getD_eq_getElem?_getD,List.getElem?_append_right (by omega),hl]
 simp
def firstT (S key:List UInt8) (i k:Nat):UInt8:=at_ S (at_ (yG S key 160) (16*i-4+(k+1)%4)).toNat ^^^ (if k=0 then rcU (i-1) else 0)
def gv (S key:List UInt8) (i k:Nat):UInt8:=if k<4 then firstT S key i k else at_ (yG S key 160) (16*i+k-4)
theorem gL (S key:List UInt8) (h:key.length=16) {i k:Nat}(hi:1≤i) (fE:i≤10) (hk:k<16) :
  at_ (yG S key 160) (16*i+k)=gv S key i k ^^^ at_ (yG S key 160) (16*(i-1)+k):=by
 obtain⟨n,hn⟩:∃ n,16*(i-1)+k=n:=⟨_,rfl⟩
 obtain⟨m,hm⟩:∃ m,16*i+k=m:=⟨_,rfl⟩
 have hl:=vx S key h n;have E1:=pE S key h (show n+1≤160 by omega) (show m<16+(n+1) by omega);have E2:=pE S key h (show n≤160 by omega) (show n<16+n by omega);have E3:∀ j,j<16+n→at_ (yG S key 160) j=at_ (yG S key n) j:=fun j hj=>pE S key h (show n≤160 by omega) hj
 have e0:at_ (yG S key (n+1)) m=jh S (yG S key n) m:=by
  rw[show yG S key (n+1)=yG S key n++[jh S (yG S key n) (16+n)] from rfl,at_,List.getD_eq_getElem?_getD,List.getElem?_append_right (by omega),hl,show m-(16+n)=0 by omega,show 16+n=m by omega];rfl
 rw[gv,firstT]
 generalize yG S key 160=K at *
 rw[hm,hn,E1,e0,jh,show m-16=n by omega,show m%16=k by omega,show m/16=i by omega,UInt8.xor_comm,← E2];congr 1
 by_cases h4:k<4
 ·rw[if_pos h4,if_pos h4,E3 _ (by omega)]
 rw[if_neg h4,if_neg h4,E3 _ (by omega)]
theorem Xf (S key:List UInt8) (h:key.length=16) {i k:Nat}(hi:1≤i) (fE:i≤10) (hk:k<16):gv S key i (k+4)=gv S key i k ^^^ at_ (yG S key 160) (16*(i-1)+k):=by
 rw[← gL S key h hi fE hk];conv=>lhs;rw[gv,if_neg (by omega)]
 rw[show 16*i+(k+4)-4=16*i+k by omega]
structure TRow (S key:List UInt8) (i k:Nat) (l:List UInt8):Prop where
 len:l.length=4
 val:∀ j,k≤j→j<k+4→at_ l (j%4)=gv S key i j
theorem Ql (l:List UInt8) (i j:Nat) (u:UInt8) (h:i<l.length):at_ (l.set i u) j=if i=j then u else at_ l j:=by
 simp only[at_,List.getD_eq_getElem?_getD,List.getElem?_set]
 by_cases e:i=j
 ·subst e;simp[h]
 simp[e]
theorem TRow.step {S key:List UInt8}(h:key.length=16) {i k:Nat}(hi:1≤i) (fE:i≤10) (hk:k<16) {l:List UInt8}(hl:TRow S key i k l):TRow S key i (k+1) (l.set (k%4) (at_ (yG S key 160) (16*i+k))) :=
 ⟨by rw[List.length_set];exact hl.len,fun j h1 h2=>by
  rw[Ql _ _ _ _ (by rw[hl.len];omega)]
  by_cases e:j=k+4
  ·subst e;rw[if_pos (by omega),gL S key h hi fE hk,Xf S key h hi fE hk]
  rw[if_neg (by omega)]
  exact hl.val j (by omega) (by omega)⟩
theorem TRow.start (S key:List UInt8) (i:Nat):TRow S key i 0 [firstT S key i 0,firstT S key i 1,firstT S key i 2,firstT S key i 3] :=
 ⟨rfl,fun j _ h=>by
  obtain rfl | rfl | rfl | rfl:j=0∨j=1∨j=2∨j=3:=by omega
  all_goals rfl⟩
end Go.Proofs.YtkmlnjociijpgaaGreatDoor
