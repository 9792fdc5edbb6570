/- squeezed. Walks: the references' Same. Walks -/
import Derived.Test.YtnlinmoiakgedaaGreatDoorK10
import Derived.Test.YtnlinmoiakgedaaGreatDoorK17
import Derived.OwnWalk
set_option linter.unusedVariables false
set_option linter.unusedSimpArgs false
set_option maxRecDepth 100000
set_option maxHeartbeats 6400000
namespace Go.Proofs.YtnlinmoiakgedaaGreatDoor
open Go.RowKit
theorem rM:∀ a b:List UInt8,Lib.compareBytes a b=0↔a=b
 | [],[]=>by rw[Lib.compareBytes];simp
 | [],y::b=>by rw[Lib.compareBytes];simp
 | x::a,[]=>by rw[Lib.compareBytes];simp
 | x::a,y::b=>by
  rw[Lib.compareBytes]
  by_cases h1:x<y
  ·rw[if_pos h1];have:x≠y:=by rintro rfl;exact UInt8.lt_irrefl x h1
   simp[this]
  ·rw[if_neg h1]
   by_cases h2:y<x
   ·rw[if_pos h2];have:x≠y:=by rintro rfl;exact UInt8.lt_irrefl x h2
    simp[this]
   ·rw[if_neg h2];have e:x=y:=UInt8.toNat_inj.1 (by rw[UInt8.lt_iff_toNat_lt]at h1 h2;omega);subst e
    simp[rM a b]
def nU (x:Itm):Prop:=∀ (y:Itm) (H:Snap) (k n:Int) (ba:Option Addr) (bl bc:Nat) (ia:Option Addr) (il ic:Nat) (k' n':Int) (ba':Option Addr) (bl' bc':Nat) (ia':Option Addr) (il' ic':Nat) (w:World),
 Modest x→Modest y→ItemA H k n ba bl bc ia il ic x→ItemA H k' n' ba' bl' bc' ia' il' ic' y→Holds w H→
 Calls Tryz.prog 44 #[.agg #[.int .i64 k,.int .u64 n,.slice ba bl bc,.slice ia il ic],.agg #[.int .i64 k',.int .u64 n',.slice ba' bl' bc',.slice ia' il' ic']] w fun e w'=>e=.returned (.bool (rz x y))∧Below w.heap.size w w'
theorem YH (x y:Itm):rz x y=(x.kind==y.kind&&x.n==y.n&&x.bytes==y.bytes&&uK x.items y.items):=by cases x;cases y;rw[rz];rfl
theorem ac:∀ l m:List Itm,uK l m=true→l.length=m.length:=fun l m h=>by rw[mo]at h;rw[h]
theorem ad (x:Itm) (ih:∀ z:Itm,cnt z<cnt x→nU z):nU x:=by
 intro y H k n ba bl bc ia il ic k' n' ba' bl' bc' ia' il' ic' w je gd hx hy hH
 obtain⟨rfl,rfl,rfl,rfl,pY⟩:=hx.eqs_;obtain⟨rfl,rfl,rfl,rfl,Qr⟩:=hy.eqs_;have HX:=Hh pY;have HY:=Hh Qr;have QK:=Hh je;have L0:=Hh gd;have wZ:=pY.bounds;have gV:=Qr.bounds;have lO:=(zi w (zW x ba bc ia ic)).alloc (by simp) (zW y ba' bc' ia' ic');have yM:=(Blk.new w 26 #[.int .i64 x.kind,.int .u64 x.n,.slice ba x.bytes.length bc,.slice ia x.items.length ic]).alloc (zW y ba' bc' ia' ic');have yu:=Blk.new (w.alloc (zW x ba bc ia ic)) 26 #[.int .i64 y.kind,.int .u64 y.n,.slice ba' y.bytes.length bc',.slice ia' y.items.length ic']
 simp only[zV]at yu
 have py:Holds ((w.alloc (zW x ba bc ia ic)).alloc (zW y ba' bc' ia' ic')) H:=(hH.alloc _).alloc _;have C:=Hh (vF _ ba ba' x.bytes y.bytes x.bytes.length y.bytes.length bc bc' rfl rfl (je.parts.1) (gd.parts.1) (Src.of_row pY.bytes.row py) (Src.of_row Qr.bytes.row py));have Zg:x.items.length≤9223372036854775807:=by omega
 have Vg:y.items.length≤9223372036854775807:=by omega
 have Ji:=Hh wZ.2.2.1;have Uj:=Hh gV.2.2.1;have E0:=YH x y;clear hx hy pY Qr wZ gV je gd
 by_cases h1:x.kind=y.kind
 case neg =>
  have E:Hid (rz x y=false):=by rw[Hid,E0];simp[h1]
  have b1:(x.kind != y.kind)=true:=by simp[h1]
  have p1:(x.kind=y.kind)=False:=eq_false h1;clear h1 E0;go_enter Tryz.func44,Tryz.ntmps44
  go_wp2_with fail
  go_ret
  exact⟨by rw[E.out];rfl,lO⟩
 have b1:(x.kind != y.kind)=false:=by simp[h1]
 have p1:(x.kind=y.kind)=True:=eq_true h1;have e1:(x.kind==y.kind)=true:=by simp[h1]
 rw[e1]at E0;clear h1 e1
 by_cases h2:x.n=y.n
 case neg =>
  have E:Hid (rz x y=false):=by rw[Hid,E0];simp[h2]
  have b2:((x.n:Int) != (y.n:Int))=true:=by simp;omega
  have p2:(x.n=y.n)=False:=eq_false h2;clear h2 E0;go_enter Tryz.func44,Tryz.ntmps44
  go_wp2_with fail
  go_ret
  exact⟨by rw[E.out];rfl,lO⟩
 have b2:((x.n:Int) != (y.n:Int))=false:=by simp;omega
 have p2:(x.n=y.n)=True:=eq_true h2;have e2:(x.n==y.n)=true:=by simp[h2]
 rw[e2]at E0;clear h2 e2;obtain⟨cmp,ul⟩:∃ cmp,Lib.compareBytes x.bytes y.bytes=cmp:=⟨_,rfl⟩
 have hz:=rM x.bytes y.bytes;rw[ul]at C hz;clear ul
 by_cases h3:x.bytes=y.bytes
 case neg =>
  have E:Hid (rz x y=false):=by rw[Hid,E0];simp[h3]
  have h0:cmp≠0:=fun h=>h3 (hz.1 h)
  have b3:(cmp != 0)=true:=by simp[h0]
  have p3:(cmp=0)=False:=eq_false h0;clear h3 E0 hz h0;go_enter Tryz.func44,Tryz.ntmps44
  go_wp2_with fail
  refine C.out.mono ?_
  rintro e w1 ⟨rfl,vg⟩
  have yR:=lO.trans (vg.mono lO.size);go_wp2_with fail
  go_ret
  exact⟨by rw[E.out];rfl,yR⟩
 have h0:=hz.2 h3;have e3:(x.bytes==y.bytes)=true:=by simp[h3]
 rw[e3]at E0;subst h0;clear hz h3 e3
 by_cases h4:x.items.length=y.items.length
 case neg =>
  have E:Hid (rz x y=false):=by
   rw[Hid,E0]
   cases hs:uK x.items y.items with
   | true=>exact absurd (ac _ _ hs) h4
   | false=>rfl
  have b4:((x.items.length:Int) != (y.items.length:Int))=true:=by simp;omega
  have p4:(x.items.length=y.items.length)=False:=eq_false h4;clear h4 E0;go_enter Tryz.func44,Tryz.ntmps44
  go_wp2_with fail
  refine C.out.mono ?_
  rintro e w1 ⟨rfl,vg⟩
  have yR:=lO.trans (vg.mono lO.size);have XP:=yM.below vg;have ZR:=yu.below vg;have c3:=XP.cell 3 rfl;have d3:=ZR.cell 3 rfl;go_wp2_with fail
  go_ret
  exact⟨by rw[E.out];rfl,yR⟩
 have b4:((x.items.length:Int) != (y.items.length:Int))=false:=by simp;omega
 have p4:(x.items.length=y.items.length)=True:=eq_true h4;have H4:=Hh h4;have E:Hid (rz x y=uK x.items y.items):=by rw[Hid,E0];rfl
 clear h4 E0;go_enter Tryz.func44,Tryz.ntmps44
 go_wp2_with fail
 refine C.out.mono ?_
 rintro e w1 ⟨rfl,vg⟩
 have yR:=lO.trans (vg.mono lO.size);have XP:=yM.below vg;have ZR:=yu.below vg;have c3:=XP.cell 3 rfl;have d3:=ZR.cell 3 rfl;clear yM yu vg lO C;go_wp2_with fail
 go_loopw [39] (fun v39 wr=>∃ j:Nat,j≤x.items.length∧v39=.int .i64 j∧uK (x.items.drop j) (y.items.drop j)=uK x.items y.items∧Below w.heap.size w wr∧Blk wr (w.heap.size+1) 26 #[.int .i64 y.kind,.int .u64 y.n,.slice ba' y.bytes.length bc',.slice ia' y.items.length ic']) (fun v39 _=>x.items.length-(intOf v39).toNat)
 case atStart=>exact⟨0,Nat.zero_le _,rfl,rfl,yR,ZR⟩
 case round =>
  obtain⟨j,hj,rfl,hs,xS,LQ⟩:=hrel;have HS:=Hh hs;clear hs c3 d3
  by_cases yi:j<x.items.length
  ·have UX:j<y.items.length:=by have:=H4.out;omega
   have xT:Holds wr H:=hH.below xS (Nat.le_refl _);obtain⟨ib,io,tj,wI⟩:=HX.out.items (by omega);obtain⟨jb,jo,Ll,Rn⟩:=HY.out.items (by omega);obtain⟨y1,y2,y3,y4,q0,q1,q2,q3,uU⟩:=wI.get j yi;obtain⟨z1,z2,z3,z4,s0,s1,s2,s3,ji⟩:=Rn.get j UX;subst tj Ll;have p0:=xT.cell q0;have p1':=xT.cell q1;have p2':=xT.cell q2;have p3:=xT.cell q3;have Jv:(j:Int)<y.items.length:=by omega
   have wW:uK (x.items.drop j) (y.items.drop j)=(rz x.items[j] y.items[j]&&uK (x.items.drop (j+1)) (y.items.drop (j+1))):=by rw[List.drop_eq_getElem_cons yi,List.drop_eq_getElem_cons UX,uK]
   have uu:=Hh (HS.out.symm.trans wW);have IH:=Hh (fun w1:World=>fun h1:Holds w1 H=>ih x.items[j] (xP x j yi) y.items[j] H _ _ y1 _ y2 y3 _ y4 _ _ z1 _ z2 z3 _ z4 w1 (QK.out.parts.2.2.get j yi) (L0.out.parts.2.2.get j UX) uU.arg ji.arg h1)
   generalize x.items[j]'yi=u at *
   generalize y.items[j]'UX=v at *
   have hT:=Blk.new wr 26 #[.int .i64 u.kind,.int .u64 u.n,.slice y1 u.bytes.length y2,.slice y3 u.items.length y4];have zG:=(xT.alloc (zW u y1 y2 y3 y4)).drew;have wZ:=(xS.alloc xS.size (zW u y1 y2 y3 y4)).drew;have PT:=(LQ.alloc (zW u y1 y2 y3 y4)).drew;have lM:=hT.drew;clear wW wI Rn uU ji q0 q1 q2 q3 hT;go_upto_region 6 with fail
   refine zf 7 (fun w'=>w'.cell? ⟨wr.heap.size,0,none⟩=some (.int .i64 u.kind)∧w'.cell? ⟨wr.heap.size,1,none⟩=some (.int .u64 u.n)∧w'.cell? ⟨wr.heap.size,2,none⟩=some (.slice y1 u.bytes.length y2)∧w'.cell? ⟨wr.heap.size,3,none⟩=some (.slice y3 u.items.length y4)∧w'.cell? ⟨w.heap.size+1,3,none⟩=some (.slice (some ⟨jb,jo,none⟩) y.items.length ic')∧w'.cell? ⟨jb,jo+j*4,none⟩=some (.int .i64 v.kind)∧w'.cell? ⟨jb,jo+j*4+1,none⟩=some (.int .u64 v.n)∧w'.cell? ⟨jb,jo+j*4+2,none⟩=some (.slice z1 v.bytes.length z2)∧w'.cell? ⟨jb,jo+j*4+3,none⟩=some (.slice z3 v.items.length z4)) (by kernel_rfl) (⟨lM.cell 0 rfl,lM.cell 1 rfl,lM.cell 2 rfl,lM.cell 3 rfl,PT.cell 3 rfl,zG.cell s0,zG.cell s1,zG.cell s2,zG.cell s3⟩) (fun zy=>?_)
   refine Tk 0 rfl zy ?_
   refine Tk 1 rfl zy ?_
   refine Tk 2 rfl zy ?_
   refine Tk 3 rfl zy ?_
   refine Tk 4 rfl zy ?_
   refine Tk 5 rfl zy ?_
   refine To 6 rfl fun K hK=>?_
   go_simp
   refine(IH.out _ zG).mono ?_
   rintro e w6 ⟨rfl,wQ⟩
   have Sg:=zG.below wQ (Nat.le_refl _);have wj:=wZ.trans (wQ.mono wZ.size);have Mu:=PT.below wQ;have yf:=lM.below wQ
   refine hK.out _ _ (fun _=>?_) (fun zy=>?_)
   ·exact⟨yf.cell 0 rfl,yf.cell 1 rfl,yf.cell 2 rfl,yf.cell 3 rfl,Mu.cell 3 rfl,Sg.cell s0,Sg.cell s1,Sg.cell s2,Sg.cell s3⟩
   clear hK K;have zy:=zy (by decide)
   try simp only[Act.put,zz4,zz5,zz6]
   refine To 7 rfl fun K hK=>?_
   go_simp
   refine hK.out _ _ (fun h=>absurd rfl h) (fun _=>?_)
   clear hK K
   try simp only[Act.put,zz4,zz5,zz6]
   refine Ways.done (by kernel_rfl) ?_
   clear zy p0 p1' p2' p3 s0 s1 s2 s3 xT zG wZ PT lM yf Sg wQ
   cases hq:rz u v with
   | false =>
    have EE:Hid (uK x.items y.items=false):=by rw[Hid,uu.out,hq];rfl
    clear hq;go_wp2_with fail
    go_ret
    exact⟨by rw[E.out,EE.out];rfl,wj⟩
   | true =>
    have EE:Hid (uK (x.items.drop (j+1)) (y.items.drop (j+1))=uK x.items y.items):=by rw[Hid,uu.out,hq];rfl
    clear hq;go_wp2_with fail
    go_roundw
    case rel=>exact⟨j+1,by omega,by go_num,EE.out,wj,Mu⟩
    case measure=>simp[intOf];omega
  ·have pB:j=x.items.length:=by omega
   subst pB;have EE:Hid (uK x.items y.items=true):=by rw[Hid,← HS.out,List.drop_length,H4.out,List.drop_length,uK]
   go_wp2_with fail
   go_ret
   exact⟨by rw[E.out,EE.out];rfl,xS⟩
theorem YF (x:Itm):nU x:=by
 have main:∀ N,∀ x:Itm,cnt x≤N→nU x:=by
  intro N
  induction N with
  | zero =>
   intro x hx
   have:0<cnt x:=by cases x;rw[cnt];omega
   omega
  | succ N ih=>exact fun x hx=>ad x fun y hy=>ih y (by omega)
 exact main _ x (Nat.le_refl _)
theorem rt {w:World}{b off n:Nat}{l:List UInt8}(h:∀ j (hj:j<l.length),w.cell? ⟨b,off+j,none⟩=some (zD l[j])) (k:Nat) (B:Option Addr) (hB:n≠0→B=some ⟨b,off+k,none⟩) (hk:k+n≤l.length):Src w B (((l.drop k).take n).map zD):=fun wd=>by
 have h0:n≠0:=by
  intro h0
  subst h0
  simp at wd
 refine⟨b,off+k,hB h0,fun j v hj=>?_⟩
 rw[List.getElem?_map]at hj;obtain⟨u,hu,rfl⟩:=Option.map_eq_some_iff.1 hj;rw[List.getElem?_take]at hu
 split at hu
 ·rename_i hjn
  rw[List.getElem?_drop]at hu;obtain⟨h1,h2⟩:=List.getElem?_eq_some_iff.1 hu;rw[Nat.add_assoc,h (k+j) h1,h2]
 ·cases hu
def dbl (n:Nat):Nat:=if n=0 then 0 else(1023+n.log2)*4503599627370496+(n*2 ^ (52-n.log2)-4503599627370496)
theorem oM:∀ n:Fin 1024,floatOfInt .f64 ((n.val:Nat):Int)=dbl n.val:=by decide +kernel
theorem Vl:∀ n:Fin 1024,floatBits .add .f64 (dbl n.val) (dbl 1024)=some (dbl (n.val+1024)):=by decide +kernel
theorem aP {s e m:Nat}(hs:s≤1) (he:1≤e) (Pq:e≤2046) (hm:m<4503599627370496) :
  floatBits .mul .f64 4607182418800017408 (s*9223372036854775808+e*4503599627370496+m)=some (s*9223372036854775808+e*4503599627370496+m):=by
 have e1:Ieee.double.signWeight=9223372036854775808:=rfl;have e2:Ieee.double.binade=4503599627370496:=rfl;have e3:Ieee.double.infRung=9218868437227405312:=rfl;have e4:Ieee.double.leastPlace = -1074:=rfl;have e5:Ieee.double.fractionBits=52:=rfl;have r1:Ieee.double.read 4607182418800017408=.number false 4503599627370496 (-52):=by decide +kernel
 obtain⟨x,hx⟩:∃ x,s*9223372036854775808+e*4503599627370496+m=x:=⟨_,rfl⟩
 have r2:Ieee.double.read x=.number (s%2==1) (4503599627370496+m) (-1074+((e-1:Nat):Int)):=by
  unfold Ieee.Format.read
  rw[e1,e2,e3,e4];have a1:x/9223372036854775808=s:=by omega
  have a2:x%9223372036854775808=e*4503599627370496+m:=by omega
  simp only[a1,a2]
  rw[if_neg (by omega),if_pos (by omega)];congr 1
  ·omega
  ·have:(e*4503599627370496+m)/4503599627370496=e:=by omega
   rw[this]
 rw[hx];show((Ieee.double.read 4607182418800017408).product (Ieee.double.read x)).map Ieee.double.write=some x
 rw[r1,r2]
 simp only[Ieee.Datum.product,Option.map_some,Ieee.Format.write,Bool.false_bne]
 congr 1
 obtain⟨M,hM⟩:∃ M,4503599627370496+m=M:=⟨_,rfl⟩
 have lK:4503599627370496≤M:=by omega
 have b9:M<9007199254740992:=by omega
 have hl:(4503599627370496*M).log2=104:=by
  refine ld ?_ ?_
  ·have:(2:Nat) ^ 104=4503599627370496*4503599627370496:=by decide
   rw[this];exact Nat.mul_le_mul_left _ lK
  ·have:(2:Nat) ^ (104+1)=4503599627370496*9007199254740992:=by decide
   rw[this];exact Nat.mul_lt_mul_of_pos_left b9 (by omega)
 rw[hM]
 unfold Ieee.Format.nearest
 rw[if_neg (by intro h;rcases Nat.mul_eq_zero.1 h with h | h <;> omega),e2,e3,e4,e5,hl];have p1:max (-52+(-1074+((e-1:Nat):Int))+((104:Nat):Int)-((52:Nat):Int)) (-1074) = -1074+((e-1:Nat):Int):=by omega
 rw[p1];have p2:(-52+(-1074+((e-1:Nat):Int))-(-1074+((e-1:Nat):Int))).toNat=0:=by omega
 have p3:(-1074+((e-1:Nat):Int)-(-52+(-1074+((e-1:Nat):Int)))).toNat=52:=by omega
 have p4:(-1074+((e-1:Nat):Int) - -1074).toNat=e-1:=by omega
 simp only[p2,p3,p4,Nat.shiftLeft_zero]
 have hq:4503599627370496*M=M*2 ^ 52:=by rw[Nat.mul_comm]
 rw[hq,pJ _ M 52 (by rw[← hq,hl];omega)];clear p1 p2 p3 p4 hl hq r1 r2 e1 e2 e3 e4 e5;obtain⟨r,hr⟩:∃ r,min ((e-1)*4503599627370496+M) 9218868437227405312=r:=⟨_,rfl⟩
 have mI:r=(e-1)*4503599627370496+M:=by
  rw[← hr]
  exact Nat.min_eq_left (by omega)
 obtain⟨k,rfl⟩:∃ k,e=k+1:=⟨e-1,by omega⟩
 rw[hr,iJ s r hs,mI,← hx,← hM,Nat.add_sub_cancel,Nat.succ_mul]
 simp only[Nat.add_assoc]
theorem aZ {e m:Nat}(he:1≤e) (Pq:e≤2046) (hm:m<4503599627370496):Ieee.double.read (e*4503599627370496+m)=.number false (4503599627370496+m) (-1074+((e-1:Nat):Int)):=by
 have e1:Ieee.double.signWeight=9223372036854775808:=rfl;have e2:Ieee.double.binade=4503599627370496:=rfl;have e3:Ieee.double.infRung=9218868437227405312:=rfl;have e4:Ieee.double.leastPlace = -1074:=rfl;obtain⟨x,hx⟩:∃ x,e*4503599627370496+m=x:=⟨_,rfl⟩
 have a1:x/9223372036854775808=0:=by omega
 have a2:x%9223372036854775808=x:=by omega
 rw[hx]
 unfold Ieee.Format.read
 rw[e1,e2,e3,e4]
 simp only[a1,a2]
 rw[if_neg (by omega),if_pos (by omega)];have a3:x/4503599627370496=e:=by omega
 have a4:x%4503599627370496=m:=by omega
 rw[a3,a4];rfl
theorem YU {a b:Int}(h:b<a):compare a b=.gt:=by
 show compareOfLessAndEq a b=_
 rw[compareOfLessAndEq,if_neg (by omega),if_neg (by omega)]
theorem Ti {a b:Int}(h:a<b):compare a b=.lt:=by
 show compareOfLessAndEq a b=_
 rw[compareOfLessAndEq,if_pos h]
theorem li {e m:Nat}(he:2≤e) (Pq:e≤2045) (hm:m<4503599627370496) {D:Nat}(hD:D=e*4503599627370496+m) :
  FloatKind.f64.format.order D 0=some .gt∧FloatKind.f64.format.order D 9218868437227405311=some .lt∧FloatKind.f64.format.order D 4503599627370496=some .gt∧FloatKind.f64.format.order D D=some .eq:=by
 have r:=aZ (show 1≤e by omega) (show e≤2046 by omega) hm;rw[← hD]at r;have z:Ieee.double.read 0=.number false 0 (-1074):=by decide +kernel
 have mx:Ieee.double.read 9218868437227405311=.number false 9007199254740991 971:=by decide +kernel
 have mn:Ieee.double.read 4503599627370496=.number false 4503599627370496 (-1074):=by decide +kernel
 obtain⟨k,hk⟩:∃ k,e-1=k:=⟨_,rfl⟩
 rw[hk]at r;have cJ:∀ a b:Nat,a≤a <<< b:=fun a b=>by rw[Nat.shiftLeft_eq];exact Nat.le_mul_of_pos_right _ (Nat.two_pow_pos b)
 have SC:∀ a b:Nat,1≤b→a*2≤a <<< b:=fun a b hb=>by
  rw[Nat.shiftLeft_eq]
  refine Nat.mul_le_mul_left _ ?_
  calc 2=2 ^ 1:=rfl
   _≤2 ^ b:=Nat.pow_le_pow_right (by omega) hb
 refine⟨?_, ?_, ?_, ?_⟩
 ·show(Ieee.double.read D).order (Ieee.double.read 0)=_
  rw[r,z]
  simp only[Ieee.Datum.order,Ieee.signed]
  rw[YU];have:=cJ (4503599627370496+m) (-1074+(k:Int)-min (-1074+(k:Int)) (-1074)).toNat
  simp only[Bool.false_eq_true,if_false,Nat.zero_shiftLeft]
  omega
 ·show(Ieee.double.read D).order (Ieee.double.read 9218868437227405311)=_
  rw[r,mx]
  simp only[Ieee.Datum.order,Ieee.signed]
  rw[Ti];have h1:min (-1074+(k:Int)) 971 = -1074+(k:Int):=by omega
  rw[h1];have h2:(-1074+(k:Int)-(-1074+(k:Int))).toNat=0:=by omega
  rw[h2];have:=SC 9007199254740991 (971-(-1074+(k:Int))).toNat (by omega)
  simp only[Bool.false_eq_true,if_false,Nat.shiftLeft_zero]
  omega
 ·show(Ieee.double.read D).order (Ieee.double.read 4503599627370496)=_
  rw[r,mn]
  simp only[Ieee.Datum.order,Ieee.signed]
  rw[YU];have h1:min (-1074+(k:Int)) (-1074) = -1074:=by omega
  rw[h1];have h2:(-1074-(-1074:Int)).toNat=0:=by decide
  have:=SC (4503599627370496+m) (-1074+(k:Int) - -1074).toNat (by omega);rw[h2]
  simp only[Bool.false_eq_true,if_false,Nat.shiftLeft_zero]
  omega
 ·show(Ieee.double.read D).order (Ieee.double.read D)=_
  rw[r]
  simp only[Ieee.Datum.order]
  congr 1
  show compareOfLessAndEq _ _=_
  rw[compareOfLessAndEq,if_neg (by omega),if_pos rfl]
structure Pos (D e m:Nat):Prop where
 eq:D=e*4503599627370496+m
 lo:2≤e
 hi:e≤2045
 m_lt:m<4503599627370496
theorem Pos.lt {D e m:Nat}(h:Pos D e m):D<9223372036854775808:=by have:=h.eq;have:=h.hi;have:=h.m_lt;omega
theorem qO {D:Nat}(h:D<9223372036854775808):bits .andNot .u64 (D:Int) 9223372036854775808=(D:Int):=by
 have:=u64_andNot_nat D 9223372036854775808 (by omega) (by omega);rw[show((9223372036854775808:Nat):Int)=9223372036854775808 from rfl]at this;rw[this,show 18446744073709551615-9223372036854775808=2 ^ 63-1 by decide,Nat.and_two_pow_sub_one_eq_mod,Nat.mod_eq_of_lt (by simpa using h)]
theorem iB {D e m:Nat}(h:Pos D e m):bits .andNot .u64 (D:Int) 9218868437227405312=(m:Int):=by
 have hl:=h.lt;have:=u64_andNot_nat D 9218868437227405312 (by omega) (by omega);rw[show((9218868437227405312:Nat):Int)=9218868437227405312 from rfl]at this;rw[this,show 18446744073709551615-9218868437227405312=2 ^ 63 ||| (2 ^ 52-1) by decide,Nat.and_or_distrib_left,Nat.and_two_pow_sub_one_eq_mod]
 have h0:D &&& 2 ^ 63=0:=by
  apply Nat.eq_of_testBit_eq
  intro i
  rw[Nat.testBit_and,Nat.testBit_two_pow,Nat.zero_testBit]
  by_cases hi:63=i
  ·subst hi;rw[Nat.testBit_lt_two_pow (by simpa using hl)];rfl
  ·simp[hi]
 have h1:=h.eq;have h2:=h.m_lt;rw[h0,Nat.zero_or]
 simp only[Nat.reducePow]
 omega
theorem YN {q m:Nat}(hq:q≤2046) (hm:m<4503599627370496):bits .or .u64 (m:Int) ((q:Int)*4503599627370496)=((q*4503599627370496+m:Nat):Int):=by
 have h:=Nat.shiftLeft_add_eq_or_of_lt (show m<2 ^ 52 by simpa using hm) q;rw[Nat.shiftLeft_eq]at h;rw[show((q:Int)*4503599627370496)=((q*4503599627370496:Nat):Int) by omega,u64_or_nat _ _ (by omega) (by omega),Nat.or_comm]
 simp only[Nat.reducePow]at h
 rw[← h]
theorem gj {e:Nat}(h:e≤2046):bits .and .i64 (e:Int) 2047=(e:Int):=by
 have vh:∀ X:Fin 2048,bits .and .i64 ((X.val:Nat):Int) 2047=((X.val:Nat):Int):=by decide +kernel
 exact vh ⟨e,by omega⟩
theorem fg {D:Nat}(h:D<9223372036854775808) (w:World):Calls Tryz.prog 135 #[.float .f64 D] w fun e w'=>e=.returned (.float .f64 D)∧w'=w:=by
 have r1:=yB D;have r2:=vZ D;have K:=qO h;clear h;go_enter Tryz.func135,Tryz.ntmps135
 go_wp2_with fail
 go_ret
 exact⟨rfl,rfl⟩
theorem dE {D e m:Nat}(h:Pos D e m) (w:World):Calls Tryz.prog 132 #[.float .f64 D,.int .i64 0] w fun e w'=>e=.returned (.bool false)∧w'=w:=by
 have AB:=Hh (fun w=>fg h.lt w);have o1:=(li h.lo h.hi h.m_lt h.eq).2.1;clear h;go_enter Tryz.func132,Tryz.ntmps132
 go_wp2_with fail
 refine(AB.out _).mono ?_
 rintro e w1 ⟨rfl,rfl⟩
 go_wp2_with fail
 go_ret
 exact⟨by first | rfl | simp[o1],rfl⟩
theorem dF {D e m:Nat}(h:Pos D e m) (w:World):Calls Tryz.prog 133 #[.float .f64 D] w fun e w'=>e=.returned (.bool false)∧w'=w:=by
 have o1:=(li h.lo h.hi h.m_lt h.eq).2.2.2;clear h;go_enter Tryz.func133,Tryz.ntmps133
 go_wp2_with fail
 go_ret
 exact⟨by first | rfl | simp[o1],rfl⟩
theorem jp {D e m:Nat}(h:Pos D e m) (w:World):Calls Tryz.prog 134 #[.float .f64 D] w fun e w'=>e=.returned (.tuple #[.float .f64 D,.int .i64 0])∧w'=w:=by
 have AB:=Hh (fun w=>fg h.lt w);have o1:(FloatKind.f64.format.order D 4503599627370496==some .lt)=false:=by rw[(li h.lo h.hi h.m_lt h.eq).2.2.1];rfl
 clear h;go_enter Tryz.func134,Tryz.ntmps134
 go_wp2_with fail
 refine(AB.out _).mono ?_
 rintro e w1 ⟨rfl,rfl⟩
 go_wp2_with fail
 go_ret2
 exact⟨rfl,rfl⟩
theorem Xv (w:World):Calls Tryz.prog 126 #[.int .i64 1] w fun e w'=>e=.returned (.float .f64 9218868437227405312)∧w'=w:=by
 have r2:∀ w,(callFunc 81 #[.int .u64 9218868437227405312]).run Tryz.prog w=.ok (.value (.float .f64 9218868437227405312)) w:=vZ 9218868437227405312;go_enter Tryz.func126,Tryz.ntmps126
 go_wp2_with fail
 go_ret
 exact⟨rfl,rfl⟩
theorem dG {D e m:Nat}(h:Pos D e m) (k:Int) (q:Nat) (hk : -1000≤k∧k≤1000) (hq:(e:Int)+k=(q:Int)) (hq2:2≤q∧q≤2045) (w:World) :
  Calls Tryz.prog 131 #[.float .f64 D,.int .i64 k] w fun e w'=>e=.returned (.float .f64 (q*4503599627370496+m))∧w'=w:=by
 obtain⟨o1,_,_,_⟩:=li h.lo h.hi h.m_lt h.eq;have o0:(FloatKind.f64.format.order D 0==some .eq)=false:=by rw[o1];rfl
 have IN:=Hh (fun w=>dE h w);have NA:=Hh (fun w=>dF h w);have NO:=Hh (fun w=>jp h w);have r1:=yB D;have hD:=h.eq;have hm:=h.m_lt;have Lo:=h.lo;have Li:=h.hi;have K1:IntKind.i64.wrap (k+0)=k:=by rw[Int.add_zero];exact IntWalk.i64_in _ (by omega)
 have K2:(D:Int)/4503599627370496=(e:Int):=by omega
 have K3:IntKind.i64.wrap (e:Int)=(e:Int):=IntWalk.i64_in _ (by omega);have K4:=gj (show e≤2046 by omega);have K5:IntKind.i64.wrap ((e:Int)-1023)=(e:Int)-1023:=IntWalk.i64_in _ (by omega);obtain⟨x,hx⟩:∃ x:Int,k+((e:Int)-1023)=x:=⟨_,rfl⟩
 have K6:IntKind.i64.wrap (k+((e:Int)-1023))=x:=by rw[hx];exact IntWalk.i64_in _ (by omega)
 have K6b:k+((e:Int)-1023)=x:=hx;have z1:¬ (x < -1075):=by omega
 have z2:¬ (1023<x):=by omega
 have z3:¬ (x < -1022):=by omega
 have K7:=iB h;have K8:IntKind.i64.wrap (x+1023)=(q:Int):=by rw[show x+1023=(q:Int) by omega];exact IntWalk.i64_in _ (by omega)
 have K8b:x+1023=(q:Int):=by omega
 have K9:IntKind.u64.wrap (q:Int)=(q:Int):=by rw[IntKind.wrap_u64];omega
 have K10:IntKind.u64.wrap ((q:Int)*4503599627370496)=(q:Int)*4503599627370496:=by rw[IntKind.wrap_u64];omega
 have K11:=YN (show q≤2046 by omega) hm;obtain⟨R,hR⟩:∃ R,q*4503599627370496+m=R:=⟨_,rfl⟩
 have Rw:floatBits .mul .f64 4607182418800017408 R=some R:=by
  have:=aP (s:=0) (e:=q) (m:=m) (by omega) (by omega) (by omega) hm;rw[Nat.zero_mul,Nat.zero_add,hR]at this
  exact this
 have r3:=vZ R;rw[hR]at K11;rw[hR];have r4:∀ w,(binOp .mul 118 (.float .f64 4607182418800017408) (.float .f64 R)).run Tryz.prog w=.ok (.float .f64 R) w:=fun w=>run_float_arith w .mul _ .f64 _ _ R Rw
 obtain⟨tG,sE⟩:=hk;have Sx:(2:Int)≤(e:Int):=by omega
 have Pq:(e:Int)≤2045:=by omega
 have pD : -1021≤x:=by omega
 have Zs:x≤1022:=by omega
 have gX:(2:Int)≤(q:Int):=by omega
 have Jz:(q:Int)≤2045:=by omega
 clear h hD hm Lo Li hq hq2 hx Rw hR o1;go_enter Tryz.func131,Tryz.ntmps131
 go_wp2_with fail
 refine(IN.out _).mono ?_
 rintro e w1 ⟨rfl,rfl⟩
 go_wp2_with fail
 refine(NA.out _).mono ?_
 rintro e w1 ⟨rfl,rfl⟩
 go_wp2_with fail
 refine(NO.out _).mono ?_
 rintro e w1 ⟨rfl,rfl⟩
 go_wp2_with fail
 go_ret
 exact⟨rfl,rfl⟩
end Go.Proofs.YtnlinmoiakgedaaGreatDoor
