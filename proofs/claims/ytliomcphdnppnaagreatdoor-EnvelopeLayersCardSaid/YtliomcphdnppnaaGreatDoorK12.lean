/- squeezed. Reading data items: plain mathemat -/
import Derived.Test.YtliomcphdnppnaaGreatDoorK11
set_option linter.unusedVariables false
set_option linter.unusedSimpArgs false
set_option maxRecDepth 100000
set_option maxHeartbeats 6400000
namespace Go.Proofs.YtliomcphdnppnaaGreatDoor
open Go.RowKit
def beN (l:List UInt8):Nat:=l.foldl (fun x c=>x*256+c.toNat) 0
def LI:List UInt8→Except Nat (Nat×Nat×Nat)
 | []=>.error 2
 | f::t =>
 if 27<f.toNat%32 then .error 3
 else if f.toNat%32<24 then .ok (f.toNat,f.toNat%32,1)
 else if t.length<2 ^ (f.toNat%32-24) then .error 2
 else if f.toNat/32<7∧(yI 0 (beN (t.take (2 ^ (f.toNat%32-24))))).length≠1+2 ^ (f.toNat%32-24) then .error 4
 else .ok (f.toNat,beN (t.take (2 ^ (f.toNat%32-24))),1+2 ^ (f.toNat%32-24))
def PJ (v:Nat):Nat :=
 if v/1024%32=31 then v/32768*9223372036854775808+9218868437227405312+v%1024*4398046511104
 else if v/1024%32=0 then(if v%1024=0 then v/32768*9223372036854775808 else v/32768*9223372036854775808+(999+(v%1024).log2)*4503599627370496+(v%1024*2 ^ (52-(v%1024).log2)-4503599627370496))
 else v/32768*9223372036854775808+(v/1024%32+1008)*4503599627370496+v%1024*4398046511104
def PK (v:Nat):Nat :=
 if v/8388608%256=255 then v/2147483648*9223372036854775808+9218868437227405312+v%8388608*536870912
 else if v/8388608%256=0 then(if v%8388608=0 then v/2147483648*9223372036854775808 else v/2147483648*9223372036854775808+(874+(v%8388608).log2)*4503599627370496+(v%8388608*2 ^ (52-(v%8388608).log2)-4503599627370496))
 else v/2147483648*9223372036854775808+(v/8388608%256+896)*4503599627370496+v%8388608*536870912
def Zb (low n:Nat):Nat:=if low=25 then PJ n else if low=26 then PK n else n
def PC (low n:Nat):Except Nat Itm :=
 if low<24 then .ok (.mk 7 n [] [])
 else if low=24 then(if n<32 then .error 4 else .ok (.mk 7 n [] []))
 else if(isNaN (Zb low n)&&Zb low n != vF)||(yM (Zb low n)).length != 1+2 ^ (low-24) then .error 4
 else .ok (.mk 8 (Zb low n) [] [])
inductive PL where
 | err (e:Nat)
 | ok (l:List Itm) (k c:Nat)
inductive PR where
 | err (e:Nat)
 | ok (x:Itm) (k c:Nat)
def Lf (p:List UInt8→Nat→PR):Nat→List UInt8→Nat→PL
 | 0,_,c=>.ok [] 0 c
 | n+1,b,c=>match p b c with
  | .err e=>.err e
  | .ok x k c'=>match Lf p n (b.drop k) c' with
   | .err e=>.err e
   | .ok l k' c''=>.ok (x::l) (k+k') c''
def IY (last:Option (List UInt8)) (key:List UInt8):Option Nat :=
 match last with
 | none=>none
 | some l=>if Lib.compareBytes key l=0 then some 7 else if Lib.compareBytes key l<0 then some 6 else none
def MZ (p:List UInt8→Nat→PR):Nat→List UInt8→Nat→Option (List UInt8)→PL
 | 0,_,c,_=>.ok [] 0 c
 | n+1,b,c,last=>match p b c with
  | .err e=>.err e
  | .ok x k c'=>match IY last (b.take k) with
   | some e=>.err e
   | none=>match p (b.drop k) c' with
    | .err e=>.err e
    | .ok y k' c''=>match MZ p n (b.drop (k+k')) c'' (some (b.take k)) with
     | .err e=>.err e
     | .ok l k'' c3=>.ok (x::y::l) (k+k'+k'') c3
def ZZ:Nat→List UInt8→Nat→PR
 | d,b,c =>
 if 256≤c then .err 8
 else match LI b with
  | .error e=>.err e
  | .ok (f,n,k) =>
  if f/32≤1 then .ok (.mk (f/32:Nat) n [] []) k (c+1)
  else if f/32≤3 then
   (if b.length<k+n then .err 2
   else if f/32=3∧Lib.validD ((b.drop k).take n)=false then .err 5
   else .ok (.mk (f/32:Nat) 0 ((b.drop k).take n) []) (k+n) (c+1))
  else if f/32=7 then
   (match PC (f%32) n with
   | .error e=>.err e
   | .ok x=>.ok x k (c+1))
  else match d with
   | 0=>.err 8
   | d+1 =>
   if f/32=6 then(match ZZ d (b.drop k) (c+1) with
    | .err e=>.err e
    | .ok x k' c'=>.ok (.mk 6 n [] [x]) (k+k') c')
   else if f/32=5 then(match MZ (ZZ d) n (b.drop k) (c+1) none with
    | .err e=>.err e
    | .ok l k' c'=>.ok (.mk 5 0 [] l) (k+k') c')
   else(match Lf (ZZ d) n (b.drop k) (c+1) with
    | .err e=>.err e
    | .ok l k' c'=>.ok (.mk 4 0 [] l) (k+k') c')
theorem fT:∀ a b:List UInt8,¬ Lib.compareBytes a b=0→¬ Lib.compareBytes a b<0→Lib.compareBytes b a<0
 | [],[],h,_=>absurd rfl h
 | [],_::_,_,h=>absurd (by show(-1:Int)<0;decide) h
 | _::_,[],_,_=>by show(-1:Int)<0;decide
 | x::a,y::b,h,k=>by
  rw[Lib.compareBytes]at h k⊢
  split at h
  ·rename_i h1
   rw[if_pos h1]at k
   exact absurd (by decide) k
  rename_i h1
  rw[if_neg h1]at k
  split at h
  ·rename_i h2
   rw[if_pos h2];decide
  rename_i h2
  rw[if_neg h2]at k;rw[if_neg h2,if_neg h1]
  exact fT a b h k
def fa (b:List UInt8):PR:=ZZ 8 (b.take 4096) 0
structure Ext where
 label:Int
 has:Bool
 val:List UInt8
def Ma (x:Itm) (lim:Nat):Option Int :=
 if x.kind=0∧x.n≤lim then some (x.n:Int) else if x.kind=1∧x.n<lim then some (-1-(x.n:Int)) else none
def fU:Nat→List Ext→List UInt8→Except Nat (List Ext)
 | 0,out,_=>.ok out
 | n+1,out,b =>
 if b.length=0 then .ok out
 else match fa b with
  | .err e=>.error e
  | .ok x k _ =>
  if x.kind=2 then
   (match out.getLast? with
   | none=>.error 4
   | some l =>
   if l.has then .error 4 else if 600<x.bytes.length then .error 8
   else fU n (out.dropLast++[{ l with has:=true,val:=x.bytes }]) (b.drop k))
  else match Ma x 65535 with
   | none=>.error 4
   | some v=>if out.length=4 then .error 8 else fU n (out++[{ label:=v,has:=false,val:=[] }]) (b.drop k)
def Oo (b:List UInt8):Except Nat (List Ext):=fU (b.length+1) [] b
def Va (c:UInt8):Bool:=decide (c.toNat<24)||decide (32≤c.toNat)&&decide (c.toNat<56)
def Xx (b:List UInt8):Except Nat (List UInt8×Nat) :=
 match b with
 | []=>.error 2
 | x::t =>
 if Va x then .ok ([x],1)
 else if x.toNat<64∨88<x.toNat then .error 4
 else if 7<x.toNat-64 then .error 8
 else if b.length<1+(x.toNat-64) then .error 2
 else if x.toNat-64=1∧Va (b.getD 1 0) then .error 4
 else .ok (t.take (x.toNat-64),1+(x.toNat-64))
def Qy:List Int→Bool
 | []=>false
 | x::l=>l.contains x||Qy l
structure First where
 method:Int
 suites:List Int
 gx:List UInt8
 conn:List UInt8
 ext:List Ext
def Qx:List Itm→Option (List Int)
 | []=>some []
 | x::l=>match Ma x 65535 with
  | none=>none
  | some v=>if v<0 then none else match Qx l with
   | none=>none
   | some t=>some (v::t)
def Sn (x:Itm):Except Nat (List Int) :=
 if x.kind=0 then(if x.n≤65535 then .ok [(x.n:Int)] else .error 4)
 else if x.kind≠4∨x.items.length<2 then .error 4
 else match Qx x.items with
  | none=>.error 4
  | some l=>if Qy l then .error 7 else if 8<l.length then .error 8 else .ok l
def nL (x:Itm):Prop:=∀ (y:Itm) (H:Snap) (k n:Int) (ba:Option Addr) (bl bc:Nat) (ia:Option Addr) (il ic:Nat) (k' n':Int) (ba':Option Addr) (bl' bc':Nat) (ia':Option Addr) (il' ic':Nat) (w:World),
 Modest x→Modest y→ItemA H k n ba bl bc ia il ic x→ItemA H k' n' ba' bl' bc' ia' il' ic' y→Holds w H→
 Calls Tryz.prog 77 #[.agg #[.int .i64 k,.int .u64 n,.slice ba bl bc,.slice ia il ic],.agg #[.int .i64 k',.int .u64 n',.slice ba' bl' bc',.slice ia' il' ic']] w fun e w'=>e=.returned (.bool (yp x y))∧Below w.heap.size w w'
theorem Ul (x y:Itm):yp x y=(x.kind==y.kind&&x.n==y.n&&x.bytes==y.bytes&&vU x.items y.items):=by cases x;cases y;rw[yp];rfl
theorem YD:∀ l m:List Itm,vU l m=true→l.length=m.length:=fun l m h=>by rw[mS]at h;rw[h]
theorem YE (x:Itm) (ih:∀ z:Itm,cnt z<cnt x→nL z):nL x:=by
 intro y H k n ba bl bc ia il ic k' n' ba' bl' bc' ia' il' ic' w lO mq hx hy hH
 obtain⟨rfl,rfl,rfl,rfl,tD⟩:=hx.eqs_;obtain⟨rfl,rfl,rfl,rfl,Wy⟩:=hy.eqs_;have HX:=Hh tD;have HY:=Hh Wy;have Ci:=Hh lO;have R7:=Hh mq;have yH:=tD.bounds;have cO:=Wy.bounds;have qC:=(zu w (zh x ba bc ia ic)).alloc (by simp) (zh y ba' bc' ia' ic');have y9:=(Blk.new w 26 #[.int .i64 x.kind,.int .u64 x.n,.slice ba x.bytes.length bc,.slice ia x.items.length ic]).alloc (zh y ba' bc' ia' ic');have yF:=Blk.new (w.alloc (zh x ba bc ia ic)) 26 #[.int .i64 y.kind,.int .u64 y.n,.slice ba' y.bytes.length bc',.slice ia' y.items.length ic']
 simp only[zr]at yF
 have mj:Holds ((w.alloc (zh x ba bc ia ic)).alloc (zh y ba' bc' ia' ic')) H:=(hH.alloc _).alloc _;have C:=Hh (rY _ ba ba' x.bytes y.bytes x.bytes.length y.bytes.length bc bc' rfl rfl (lO.parts.1) (mq.parts.1) (Src.of_row tD.bytes.row mj) (Src.of_row Wy.bytes.row mj));have Z8:x.items.length≤9223372036854775807:=by omega
 have Gk:y.items.length≤9223372036854775807:=by omega
 have WL:=Hh yH.2.2.1;have ig:=Hh cO.2.2.1;have E0:=Ul x y;clear hx hy tD Wy yH cO lO mq
 by_cases h1:x.kind=y.kind
 case neg =>
  have E:Hid (yp x y=false):=by rw[Hid,E0];simp[h1]
  have b1:(x.kind != y.kind)=true:=by simp[h1]
  have p1:(x.kind=y.kind)=False:=eq_false h1;clear h1 E0;go_enter Tryz.func77,Tryz.ntmps77
  go_wp2_with fail
  go_ret
  exact⟨by rw[E.out];rfl,qC⟩
 have b1:(x.kind != y.kind)=false:=by simp[h1]
 have p1:(x.kind=y.kind)=True:=eq_true h1;have e1:(x.kind==y.kind)=true:=by simp[h1]
 rw[e1]at E0;clear h1 e1
 by_cases h2:x.n=y.n
 case neg =>
  have E:Hid (yp x y=false):=by rw[Hid,E0];simp[h2]
  have b2:((x.n:Int) != (y.n:Int))=true:=by simp;omega
  have p2:(x.n=y.n)=False:=eq_false h2;clear h2 E0;go_enter Tryz.func77,Tryz.ntmps77
  go_wp2_with fail
  go_ret
  exact⟨by rw[E.out];rfl,qC⟩
 have b2:((x.n:Int) != (y.n:Int))=false:=by simp;omega
 have p2:(x.n=y.n)=True:=eq_true h2;have e2:(x.n==y.n)=true:=by simp[h2]
 rw[e2]at E0;clear h2 e2;obtain⟨cmp,qm⟩:∃ cmp,Lib.compareBytes x.bytes y.bytes=cmp:=⟨_,rfl⟩
 have hz:=nM x.bytes y.bytes;rw[qm]at C hz;clear qm
 by_cases h3:x.bytes=y.bytes
 case neg =>
  have E:Hid (yp x y=false):=by rw[Hid,E0];simp[h3]
  have h0:cmp≠0:=fun h=>h3 (hz.1 h)
  have b3:(cmp != 0)=true:=by simp[h0]
  have p3:(cmp=0)=False:=eq_false h0;clear h3 E0 hz h0;go_enter Tryz.func77,Tryz.ntmps77
  go_wp2_with fail
  refine C.out.mono ?_
  rintro e w1 ⟨rfl,zJ⟩
  have zA:=qC.trans (zJ.mono qC.size);go_wp2_with fail
  go_ret
  exact⟨by rw[E.out];rfl,zA⟩
 have h0:=hz.2 h3;have e3:(x.bytes==y.bytes)=true:=by simp[h3]
 rw[e3]at E0;subst h0;clear hz h3 e3
 by_cases h4:x.items.length=y.items.length
 case neg =>
  have E:Hid (yp x y=false):=by
   rw[Hid,E0]
   cases hs:vU x.items y.items with
   | true=>exact absurd (YD _ _ hs) h4
   | false=>rfl
  have b4:((x.items.length:Int) != (y.items.length:Int))=true:=by simp;omega
  have p4:(x.items.length=y.items.length)=False:=eq_false h4;clear h4 E0;go_enter Tryz.func77,Tryz.ntmps77
  go_wp2_with fail
  refine C.out.mono ?_
  rintro e w1 ⟨rfl,zJ⟩
  have zA:=qC.trans (zJ.mono qC.size);have od:=y9.below zJ;have m6:=yF.below zJ;have c3:=od.cell 3 rfl;have d3:=m6.cell 3 rfl;go_wp2_with fail
  go_ret
  exact⟨by rw[E.out];rfl,zA⟩
 have b4:((x.items.length:Int) != (y.items.length:Int))=false:=by simp;omega
 have p4:(x.items.length=y.items.length)=True:=eq_true h4;have H4:=Hh h4;have E:Hid (yp x y=vU x.items y.items):=by rw[Hid,E0];rfl
 clear h4 E0;go_enter Tryz.func77,Tryz.ntmps77
 go_wp2_with fail
 refine C.out.mono ?_
 rintro e w1 ⟨rfl,zJ⟩
 have zA:=qC.trans (zJ.mono qC.size);have od:=y9.below zJ;have m6:=yF.below zJ;have c3:=od.cell 3 rfl;have d3:=m6.cell 3 rfl;clear y9 yF zJ qC C;go_wp2_with fail
 go_loopw [39] (fun v39 wr=>∃ j:Nat,j≤x.items.length∧v39=.int .i64 j∧vU (x.items.drop j) (y.items.drop j)=vU x.items y.items∧Below w.heap.size w wr∧Blk wr (w.heap.size+1) 26 #[.int .i64 y.kind,.int .u64 y.n,.slice ba' y.bytes.length bc',.slice ia' y.items.length ic']) (fun v39 _=>x.items.length-(intOf v39).toNat)
 case atStart=>exact⟨0,Nat.zero_le _,rfl,rfl,zA,m6⟩
 case round =>
 obtain⟨j,hj,rfl,hs,yO,DH⟩:=hrel;have HS:=Hh hs;clear hs c3 d3
 by_cases zB:j<x.items.length
 ·have Pw:j<y.items.length:=by have:=H4.out;omega
  have yG:Holds wr H:=hH.below yO (Nat.le_refl _);obtain⟨ib,io,tK,xA⟩:=HX.out.items (by omega);obtain⟨jb,jo,Dp,M5⟩:=HY.out.items (by omega);obtain⟨y1,y2,y3,y4,q0,q1,q2,q3,va⟩:=xA.get j zB;obtain⟨z1,z2,z3,z4,s0,s1,s2,s3,mn⟩:=M5.get j Pw;subst tK Dp;have p0:=yG.cell q0;have p1':=yG.cell q1;have p2':=yG.cell q2;have p3:=yG.cell q3;have BX:(j:Int)<y.items.length:=by omega
  have tS:vU (x.items.drop j) (y.items.drop j)=(yp x.items[j] y.items[j]&&vU (x.items.drop (j+1)) (y.items.drop (j+1))):=by rw[List.drop_eq_getElem_cons zB,List.drop_eq_getElem_cons Pw,vU]
  have vd:=Hh (HS.out.symm.trans tS);have IH:=Hh (fun w1:World=>fun h1:Holds w1 H=>ih x.items[j] (wL x j zB) y.items[j] H _ _ y1 _ y2 y3 _ y4 _ _ z1 _ z2 z3 _ z4 w1 (Ci.out.parts.2.2.get j zB) (R7.out.parts.2.2.get j Pw) va.arg mn.arg h1)
  generalize x.items[j]'zB=u at *
  generalize y.items[j]'Pw=v at *
  have hT:=Blk.new wr 26 #[.int .i64 u.kind,.int .u64 u.n,.slice y1 u.bytes.length y2,.slice y3 u.items.length y4];have zP:=(yG.alloc (zh u y1 y2 y3 y4)).drew;have yH:=(yO.alloc yO.size (zh u y1 y2 y3 y4)).drew;have J0:=(DH.alloc (zh u y1 y2 y3 y4)).drew;have tA:=hT.drew;clear tS xA M5 va mn q0 q1 q2 q3 hT;go_upto_region 6 with fail
  refine zw 7 (fun w'=>w'.cell? ⟨wr.heap.size,0,none⟩=some (.int .i64 u.kind)∧w'.cell? ⟨wr.heap.size,1,none⟩=some (.int .u64 u.n)∧w'.cell? ⟨wr.heap.size,2,none⟩=some (.slice y1 u.bytes.length y2)∧w'.cell? ⟨wr.heap.size,3,none⟩=some (.slice y3 u.items.length y4)∧w'.cell? ⟨w.heap.size+1,3,none⟩=some (.slice (some ⟨jb,jo,none⟩) y.items.length ic')∧w'.cell? ⟨jb,jo+j*4,none⟩=some (.int .i64 v.kind)∧w'.cell? ⟨jb,jo+j*4+1,none⟩=some (.int .u64 v.n)∧w'.cell? ⟨jb,jo+j*4+2,none⟩=some (.slice z1 v.bytes.length z2)∧w'.cell? ⟨jb,jo+j*4+3,none⟩=some (.slice z3 v.items.length z4)) (by kernel_rfl) (⟨tA.cell 0 rfl,tA.cell 1 rfl,tA.cell 2 rfl,tA.cell 3 rfl,J0.cell 3 rfl,zP.cell s0,zP.cell s1,zP.cell s2,zP.cell s3⟩) (fun zy=>?_)
  refine Tk 0 rfl zy ?_
  refine Tk 1 rfl zy ?_
  refine Tk 2 rfl zy ?_
  refine Tk 3 rfl zy ?_
  refine Tk 4 rfl zy ?_
  refine Tk 5 rfl zy ?_
  refine To 6 rfl fun K hK=>?_
  go_simp
  refine(IH.out _ zP).mono ?_
  rintro e w6 ⟨rfl,xT⟩
  have Wi:=zP.below xT (Nat.le_refl _);have wJ:=yH.trans (xT.mono yH.size);have Ka:=J0.below xT;have RR:=tA.below xT
  refine Ko hK ?_ fun zy=>?_
  ·exact⟨RR.cell 0 rfl,RR.cell 1 rfl,RR.cell 2 rfl,RR.cell 3 rfl,Ka.cell 3 rfl,Wi.cell s0,Wi.cell s1,Wi.cell s2,Wi.cell s3⟩
  clear hK K
  refine To 7 rfl fun K hK=>?_
  go_simp
  refine Kz hK ?_
  clear hK K
  refine Wd ?_
  clear zy p0 p1' p2' p3 s0 s1 s2 s3 yG zP yH J0 tA RR Wi xT
  cases hq:yp u v with
  | false =>
   have EE:Hid (vU x.items y.items=false):=by rw[Hid,vd.out,hq];rfl
   clear hq;go_wp2_with fail
   go_ret
   exact⟨by rw[E.out,EE.out];rfl,wJ⟩
  | true =>
  have EE:Hid (vU (x.items.drop (j+1)) (y.items.drop (j+1))=vU x.items y.items):=by rw[Hid,vd.out,hq];rfl
  clear hq;go_wp2_with fail
  go_roundw
  case rel=>exact⟨j+1,by omega,by go_num,EE.out,wJ,Ka⟩
  case measure=>simp[intOf];omega
 have lN:j=x.items.length:=by omega
 subst lN;have EE:Hid (vU x.items y.items=true):=by rw[Hid,← HS.out,List.drop_length,H4.out,List.drop_length,vU]
 go_wp2_with fail
 go_ret
 exact⟨by rw[E.out,EE.out];rfl,yO⟩
theorem pV (x:Itm):nL x:=by
 have main:∀ N,∀ x:Itm,cnt x≤N→nL x:=by
  intro N
  induction N with
  | zero =>
   intro x hx
   have:0<cnt x:=by cases x;rw[cnt];omega
   omega
  | succ N ih=>exact fun x hx=>YE x fun y hy=>ih y (by omega)
 exact main _ x (Nat.le_refl _)
section
variable {w w' w'':World} {H H' H'':Snap} {g:Nat}
theorem GrowsBut.trans (h:GrowsBut w H w' H' g) (k:GrowsBut w' H' w'' H'' g):GrowsBut w H w'' H'' g :=
 ⟨z8 h.grown k.grown (.inl rfl),h.le.trans k.le,k.holds,fun b o hb=>by
  rcases k.fresh b o hb with h1 | h1
  ·exact h.fresh b o h1
  exact .inr (Nat.le_trans h.grown.size h1)⟩
theorem Grows.but (h:Grows w H w' H') (g:Nat):GrowsBut w H w' H' g:=⟨xq h.below _,h.le,h.holds,h.fresh⟩
theorem GrowsBut.hid (h:GrowsBut w H w' H' g) {k:Nat}(hk:H k=.none) (hl:k<w.heap.size):H' k=.none:=by
 cases hH:H' k with
 | none=>rfl
 | some o =>
 rcases h.fresh k o hH with hx | hx
 ·rw[hk]at hx;cases hx
 omega
structure DeckIn (w:World) (g:Nat) (H:Snap):Prop where
 deck:Deck w g H
 holds:Holds w H
 apart:H g=.none
structure Dealt (w:World) (H:Snap) (w':World) (H':Snap) (g:Nat):Prop where
 grows:GrowsBut w H w' H' g
 deck:DeckIn w' g H'
theorem Dealt.trans (h:Dealt w H w' H' g) (k:Dealt w' H' w'' H'' g):Dealt w H w'' H'' g:=⟨h.grows.trans k.grows,k.deck⟩
theorem DeckIn.grows (h:DeckIn w g H) (k:Grows w H w' H'):Dealt w H w' H' g :=
 ⟨k.but g,⟨(h.deck.below k.below).mono k.le,k.holds,k.none h.apart h.deck.lt⟩⟩
theorem Dealt.grown (h:Dealt w H w' H' g) (k:Grows w' H' w'' H''):Dealt w H w'' H'' g:=h.trans (h.deck.grows k)
theorem Dealt.alloc (h:Dealt w H w' H' g) (o:Obj):Dealt w H (w'.alloc o) H' g:=h.grown ((Grows.refl h.deck.holds).alloc o)
theorem Dealt.drew (h:Dealt w H w' H' g):Dealt w H w'.drew H' g:=h.grown ((Grows.refl h.deck.holds).drew)
theorem DeckIn.alloc (h:DeckIn w g H) (o:Obj):DeckIn (w.alloc o) g H:=(h.grows ((Grows.refl h.holds).alloc o)).deck
theorem Dealt.le (h:Dealt w H w' H' g):H.le H':=h.grows.le
theorem Dealt.holds (h:Dealt w H w' H' g):Holds w' H':=h.deck.holds
theorem Dealt.size (h:Dealt w H w' H' g):w.heap.size≤w'.heap.size:=h.grows.grown.size
theorem Dealt.hid (h:Dealt w H w' H' g) {k:Nat}(hk:H k=.none) (hl:k<w.heap.size):H' k=.none:=h.grows.hid hk hl
theorem Dealt.grownRow {row:Option Nat}(h:Dealt w H w' H' g) (h0:∀ k,row=some k→H' k=.none) (hw:∀ k,row=some k→w.heap.size≤k) (zB:g<w.heap.size) (hg:w'.grownBy w'' row):Dealt w H w'' H' g:=by
 have hd:=h.deck;have wS:row≠some g:=fun e=>by have:=hw g e;omega
 refine⟨⟨?_,h.le,h.holds.grown hg h0,h.grows.fresh⟩, ?_,h.holds.grown hg h0,hd.apart⟩
 ·exact⟨hg.os.trans h.grows.grown.os,hg.tape.trans h.grows.grown.tape,hg.output.trans h.grows.grown.output,Nat.le_trans h.size hg.size,fun i hi hne' =>
   (hg.block i (Nat.lt_of_lt_of_le hi h.size) (fun e=>by have:=hw i e.symm;omega)).trans (h.grows.grown.block i hi hne')⟩
 obtain⟨A,c,l,k,h1,h2,h3⟩:=hd.deck
 exact⟨A,c,l,k,h1.grown hg wS,h2,h3⟩
theorem Blk.dealt {k:Nat}{t:TypeId}{cs:Array Value}(h:Blk w k t cs) (hd:Dealt w H w' H' g) (hk:k≠g):Blk w' k t cs :=
 h.grown hd.grows.grown (by intro e;injection e with e;exact hk e.symm)
theorem OwnB.dealt {base:Nat}{v:Value}{l:List UInt8}(h:OwnB w base v l) (hd:Dealt w H w' H' g) (hb:g<base):OwnB w' base v l:=by
 refine h.kept hd.grows.grown ?_
 cases hv:v.ownBlock with
 | none=>exact .inl rfl
 | some k=>exact .inr (fun e=>by injection e with e;have:=h.lt k hv;omega)
theorem OwnI.dealt {base:Nat}{v:Value}{K:Snap}{l:List Itm}(h:OwnI w base v K l) (hd:Dealt w H w' H' g) (hb:g<base):OwnI w' base v K l:=by
 refine h.kept hd.grows.grown ?_
 cases hv:v.ownBlock with
 | none=>exact .inl rfl
 | some k=>exact .inr (fun e=>by injection e with e;have:=h.lt k hv;omega)
end
theorem yr {H:Snap}{g:Nat}(w:World) (hD:DeckIn w g H) (n:Int) (hn:0<n) (uH:n≤1099511627776) :
  Calls Tryz.prog 28 #[.pointer (some ⟨g,0,none⟩),.int .i64 n] w fun e w'=>∃ r:Nat,e=.returned (.int .i64 (r:Int))∧(r:Int)<n∧Dealt w H w' H g:=by
 refine(SJ w hD.deck hD.holds hD.apart n hn uH).mono ?_
 rintro e w' ⟨r,rfl,h0,h1,h2,h3⟩
 obtain⟨k,rfl⟩:=Int.eq_ofNat_of_zero_le h0;have hH:=hD.holds.grown h3 (by rintro q ⟨⟩;exact hD.apart)
 exact⟨k,rfl,h1,⟨h3,Snap.le.refl _,hH,fun _ _ h=>.inl h⟩,h2,hH,hD.apart⟩
theorem jx {H:Snap}{g:Nat}(w:World) (hD:DeckIn w g H) (n:Int) (hn:0≤n) (uH:n≤1048576) :
  Calls Tryz.prog 44 #[.pointer (some ⟨g,0,none⟩),.int .i64 n] w fun e w' =>
   ∃ A c l,e=.returned (.slice A l.length c)∧(l.length:Int)≤n∧∃ H',IsBytes H' A c l∧Dealt w H w' H' g:=by
 have NX:=Hh (yr w hD (n+1) (by omega) (by omega));have K0:IntKind.i64.wrap (n+1)=n+1:=IntWalk.i64_in _ (by omega);have uG:=hD.deck.lt;have HN:=Hh (And.intro hn uH);have HD:=Hh hD;clear hn uH hD;go_enter Tryz.func44,Tryz.ntmps44
 go_wp2_with fail
 refine NX.out.mono ?_
 rintro e w1 ⟨r,rfl,hr,vJ⟩
 have wD:=OwnB.nil w1 w.heap.size;go_wp2_with fail
 go_loopw [5,6] (fun v5 v6 wr=>∃ (k:Nat) (VA:Option Addr) (vc vn:Nat) (l:List UInt8),v6=.int .i64 (k:Int)∧v5=.slice VA vn vc∧OwnB wr w.heap.size (.slice VA vn vc) l∧vn=l.length∧(l.length:Int)+k≤n∧Dealt w H wr H g∧(∀ q,(Value.slice VA vn vc).ownBlock=some q→H q=none)) (fun _ v6 _=>(intOf v6).toNat)
 case atStart=>exact⟨r,_,_,_,_,rfl,rfl,wD,rfl,by simp;omega,vJ,by intro q hq;simp[Value.ownBlock]at hq⟩
 case round =>
 obtain⟨k,VA,vc,vn,l,rfl,rfl,wE,iE,Ra,qD,j9⟩:=hrel;have HV:=Hh iE;have TQ:=Hh Ra;clear iE Ra
 by_cases zB:(0:Int)<(k:Int)
 ·have NX:=Hh (yr wr qD.deck 256 (by omega) (by omega));go_wp2_with fail
  refine NX.out.mono ?_
  rintro e w2 ⟨q,rfl,hq,xt⟩
  have hd:=qD.trans xt;have rj:=wE.dealt xt uG;have K1:IntKind.u8.wrap (q:Int)=(q:Int):=IntWalk.u8_in _ (by omega);have oX:=rj.alloc (.cells #[.int .u8 (q:Int)] 5);have tW:=hd.alloc (.cells #[.int .u8 (q:Int)] 5)
  have HC:Hid ((#[.int .u8 (q:Int)]:Array Value).toList=[u8 q].map zq):=by
   simp only[Hid,List.map_cons,List.map_nil,xV]
   congr 2
   omega
  have nz:(-9223372036854775808:Int)≤(k:Int)-1∧(k:Int)-1≤9223372036854775807:=by have:=TQ.out;have:=HN.out;omega
  clear hq NX qD wE xt rj hd;go_wp2_with (at_builtin;refine zM ?_)
  unfold zD
  obtain rfl:=HV.out
  refine zo rfl (.tmp 15) (.tmp 19) rfl w.heap.size (.slice VA l.length vc) _ rfl oX _ 1 _ [u8 q] rfl rfl (Src.new _ _ _ _ rfl _ HC.out) (by have:=TQ.out;have:=HN.out;simp;omega) tW.size fun v' w7 vX wh hat7=>?_
  obtain⟨VA',vc',rfl,_⟩:=vX.form;have ii:=tW.grownRow j9 (fun q hq=>(oX.lt q hq).1) uG wh
  have mz:∀ q',(Value.slice VA' (l++[u8 q]).length vc').ownBlock=some q'→H q'=none:=fun q' gE=>by
   rcases hat7 with h | ⟨g',h1,h2⟩
   ·exact j9 q' (by rw[← h,gE])
   rw[gE]at h1;injection h1 with h1
   subst h1
   exact tW.holds.none_of_ge h2
  have Qf:(l++[u8 q]).length=l.length+1:=by simp
  rw[Qf]at vX mz;rw[Qf];clear Qf;have cS:IntKind.i64.wrap ((k:Int)-1)=(k:Int)-1:=IntWalk.i64_in _ nz;clear oX wh hat7 tW nz;go_wp2_with fail
  go_roundw
  case rel=>exact⟨k-1,VA',vc',_,_,by rw[show((k-1:Nat):Int)=(k:Int)-1 by omega],rfl,vX,by simp,by have:=TQ.out;simp;omega,ii,mz⟩
  case measure=>simp[intOf];omega
 go_wp2_with fail
 obtain rfl:=HV.out;obtain⟨H',RV,OH,fA,Ob,my⟩:=wE.snap qD.holds (fun q hq=>j9 q (by cases VA <;> simp_all [Value.ownBlock]));have hG:Grows wr H wr H'→True:=fun _=>trivial
 go_ret
 refine⟨VA,vc,l,rfl,by have:=TQ.out;omega,H',my,⟨⟨qD.grows.grown,RV,OH,fun b o hb=>?_⟩,qD.deck.deck.mono RV,OH, ?_⟩⟩
 ·rcases fA b o hb with h | h
  ·exact .inl h
  exact .inr (wE.lt b (by cases VA <;> simp_all [Value.ownBlock])).1
 cases hH:H' g with
 | none=>rfl
 | some o =>
 rcases fA g o hH with h | h
 ·rw[HD.out.apart]at h;cases h
 have:=(wE.lt g (by cases VA <;> simp_all [Value.ownBlock])).1
 omega
def gz:Value→Bool | .int .u64 x=>decide (0≤x)&&decide (x<18446744073709551616) | _=>false
def Vj:Value→Bool | .int .i64 x=>decide (-1000≤x)&&decide (x≤1000) | _=>false
def bL:Value→Bool | .string s=>decide (s.size≤3) | _=>false
theorem qT {v:Value}(h:gz v=true):∃ n:Nat,v=.int .u64 (n:Int)∧n<18446744073709551616:=by
 unfold gz at h
 split at h
 ·rename_i x
  rw[Bool.and_eq_true,decide_eq_true_eq,decide_eq_true_eq]at h;obtain⟨n,rfl⟩:=Int.eq_ofNat_of_zero_le h.1
  exact⟨n,rfl,by omega⟩
 cases h
theorem aR {v:Value}(h:Vj v=true):∃ x:Int,v=.int .i64 x∧-1000≤x∧x≤1000:=by
 unfold Vj at h
 split at h
 ·rename_i x
  rw[Bool.and_eq_true,decide_eq_true_eq,decide_eq_true_eq]at h
  exact⟨x,rfl,h.1,h.2⟩
 cases h
theorem d9 {v:Value}(h:bL v=true):∃ s:ByteArray,v=.string s∧s.size≤3:=by
 unfold bL at h
 split at h
 ·rename_i x
  exact⟨x,rfl,of_decide_eq_true h⟩
 cases h
theorem Blk.pick {w:World}{g:Nat}{t:TypeId}{cs:Array Value}(h:Blk w g t cs) (P:Value→Bool) (vH:cs.all P=true) (k:Nat) (hk:k<cs.size):∃ v,w.cell? ⟨g,k,none⟩=some v∧P v=true :=
 ⟨cs[k],h.cell k (Array.getElem?_eq_getElem hk),by rw[Array.all_eq_true]at vH;exact vH k hk⟩
theorem ZJ {H:Snap}{g:Nat}(w:World) (hD:DeckIn w g H) (n:Int) (hn:0≤n) (uH:n≤1048576) :
  Calls Tryz.prog 89 #[.pointer (some ⟨g,0,none⟩),.int .i64 n] w fun e w' =>
   ∃ s:ByteArray,e=.returned (.string s)∧(s.size:Int)≤3*n∧Dealt w H w' H g:=by
 have NX:=Hh (yr w hD (n+1) (by omega) (by omega));have K0:IntKind.i64.wrap (n+1)=n+1:=IntWalk.i64_in _ (by omega);have uG:=hD.deck.lt;have HN:=Hh (And.intro hn uH);have HD:=Hh hD;clear hn uH hD;go_enter Tryz.func89,Tryz.ntmps89
 go_wp2_with fail
 refine NX.out.mono ?_
 rintro e w1 ⟨r,rfl,hr,vJ⟩
 go_wp2_with fail
 go_loopw [5,6] (fun v5 v6 wr=>∃ (k:Nat) (s:ByteArray),v6=.int .i64 (k:Int)∧v5=.string s∧(s.size:Int)+3*k≤3*n∧Dealt w H wr H g) (fun _ v6 _=>(intOf v6).toNat)
 case atStart=>exact⟨r,⟨#[]⟩,rfl,rfl,by rw[show(⟨#[]⟩:ByteArray).size=0 from rfl];omega,vJ⟩
 case round =>
 obtain⟨k,s,rfl,rfl,Ra,qD⟩:=hrel;have TQ:=Hh Ra;clear Ra
 by_cases zB:(0:Int)<(k:Int)
 ·have hB:=Blk.new wr 9 #[.string ⟨#[97]⟩,.string ⟨#[98]⟩,.string ⟨#[47]⟩,.string ⟨#[34]⟩,.string ⟨#[92]⟩,.string ⟨#[10]⟩,.string ⟨#[127]⟩,.string ⟨#[37]⟩,.string ⟨#[195,169]⟩,.string ⟨#[226,130,172]⟩];have xt:=qD.alloc (.cells #[.string ⟨#[97]⟩,.string ⟨#[98]⟩,.string ⟨#[47]⟩,.string ⟨#[34]⟩,.string ⟨#[92]⟩,.string ⟨#[10]⟩,.string ⟨#[127]⟩,.string ⟨#[37]⟩,.string ⟨#[195,169]⟩,.string ⟨#[226,130,172]⟩] 9);have NX:=Hh (yr _ xt.deck 10 (by omega) (by omega));go_wp2_with fail
  refine NX.out.mono ?_
  rintro e w3 ⟨q,rfl,hq,tW⟩
  have ux:=hB.dealt tW (by have:=qD.size;omega);obtain⟨v,hc,hP⟩:=ux.pick bL (by kernel_rfl) q (by simp;omega);obtain⟨t,rfl,ht⟩:=d9 hP;have hd:=xt.trans tW;have mB:(q:Int)<10:=hq;have HK:=Hh ht;have cS:IntKind.i64.wrap ((k:Int)-1)=(k:Int)-1:=IntWalk.i64_in _ (by have:=TQ.out;have:=HN.out;omega);have vd:s.size+t.size≤9223372036854775807:=by have:=TQ.out;have:=HN.out;omega
  clear NX hB ux hP xt tW ht;go_wp2_with fail
  go_roundw
  case rel=>exact⟨k-1,_,by rw[show((k-1:Nat):Int)=(k:Int)-1 by omega],rfl,by have:=TQ.out;have:=HK.out;simp[ByteArray.size_append];omega,hd⟩
  case measure=>simp[intOf];omega
 go_wp2_with fail
 go_ret
 exact⟨s,rfl,by have:=TQ.out;omega,qD⟩
theorem uR {H:Snap}{g:Nat}(w:World) (hD:DeckIn w g H) :
  Calls Tryz.prog 88 #[.pointer (some ⟨g,0,none⟩)] w fun e w' =>
   ∃ n:Nat,e=.returned (.int .u64 (n:Int))∧n<18446744073709551616∧Dealt w H w' H g:=by
 have NX:=Hh (yr w hD 6 (by omega) (by omega));have uG:=hD.deck.lt;clear hD;go_enter Tryz.func88,Tryz.ntmps88
 go_wp2_with fail
 refine NX.out.mono ?_
 rintro e w1 ⟨r,rfl,hr,vJ⟩
 by_cases h0:r=0
 ·subst h0;have hB:=Blk.new w1 22 #[.int .u64 23,.int .u64 24,.int .u64 255,.int .u64 256,.int .u64 65535,.int .u64 65536,.int .u64 4294967295,.int .u64 4294967296,.int .u64 18446744073709551615];have xt:=vJ.alloc (.cells #[.int .u64 23,.int .u64 24,.int .u64 255,.int .u64 256,.int .u64 65535,.int .u64 65536,.int .u64 4294967295,.int .u64 4294967296,.int .u64 18446744073709551615] 22);have NX:=Hh (yr _ xt.deck 9 (by omega) (by omega));go_wp2_with fail
  refine NX.out.mono ?_
  rintro e w3 ⟨q,rfl,hq,tW⟩
  have ux:=hB.dealt tW (by have:=vJ.size;omega);obtain⟨v,hc,hP⟩:=ux.pick gz (by kernel_rfl) q (by simp;omega);obtain⟨x,rfl,hx⟩:=qT hP;have hd:=xt.trans tW;have HX:=Hh hx;clear NX hB ux hP xt tW hx;go_wp2_with fail
  go_ret
  exact⟨x,rfl,HX.out,hd⟩
 by_cases h1:r=1
 ·subst h1;have N2:=Hh (yr w1 vJ.deck 1073741824 (by omega) (by omega));go_wp2_with fail
  refine N2.out.mono ?_
  rintro e w2 ⟨q,rfl,hq,xt⟩
  have K1:IntKind.u64.wrap (q:Int)=(q:Int):=IntWalk.u64_in _ (by omega);go_wp2_with fail
  go_ret
  exact⟨q,rfl,by omega,vJ.trans xt⟩
 have b0:((r:Int)==0)=false:=by rw[beq_eq_false_iff_ne];omega
 have b1:((r:Int)==1)=false:=by rw[beq_eq_false_iff_ne];omega
 have N2:=Hh (yr w1 vJ.deck 30 (by omega) (by omega));clear h0 h1;go_wp2_with fail
 refine N2.out.mono ?_
 rintro e w2 ⟨q,rfl,hq,xt⟩
 have K1:IntKind.u64.wrap (q:Int)=(q:Int):=IntWalk.u64_in _ (by omega);go_wp2_with fail
 go_ret
 exact⟨q,rfl,by omega,vJ.trans xt⟩
theorem Dealt.gb {w w' w'':World}{H H':Snap}{g k:Nat}(h:Dealt w H w' H' g) (h0:H' k=none) (hw:w.heap.size≤k) (zB:g<w.heap.size) (hg:w'.grownBy w'' (some k)):Dealt w H w'' H' g:=h.grownRow (row:=some k) (by rintro q ⟨⟩;exact h0) (by rintro q ⟨⟩;exact hw) zB hg
end Go.Proofs.YtliomcphdnppnaaGreatDoor
