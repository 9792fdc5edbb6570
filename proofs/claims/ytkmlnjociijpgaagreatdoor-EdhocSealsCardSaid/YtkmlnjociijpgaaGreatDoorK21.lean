/- squeezed. Reading data items, third part: wh -/
import Derived.Test.YtkmlnjociijpgaaGreatDoorK20
import Derived.Test.YtkmlnjociijpgaaGreatDoorK19
import Derived.Lib.AppendStr
import Derived.OwnWalk
set_option linter.unusedVariables false
set_option linter.unusedSimpArgs false
set_option maxRecDepth 100000
set_option maxHeartbeats 6400000
namespace Go.Proofs.YtkmlnjociijpgaaGreatDoor
open Go.RowKit
theorem jah{P:Prop}(h:P:=by
 clear al tv jC qE oW hG hO hb;go_wp2_with fail
 rw[HW.out.1,HW.out.2.1,HW.out.2.2]
 refine JN.out.mono ?_
 rintro e w3 ⟨r3,rfl,tr⟩
 have Md:Hid ([tE prk info j,info,[UInt8.ofNat (j+1)]].flatten.length≤1099511000):=by have h1:=ku prk info j;have h2:=HN.out.2.2.1;rw[Hid];simp;omega
 have OT:Hid (lL prk [tE prk info j,info,[UInt8.ofNat (j+1)]].flatten=tE prk info (j+1)):=by rw[Hid];simp[tE]
 obtain⟨I,hI⟩:∃ I,[tE prk info j,info,[UInt8.ofNat (j+1)]].flatten=I:=⟨_,rfl⟩
 rw[hI]at tr Md OT;obtain⟨A3,c3,rfl,_⟩:=tr.own.form;obtain⟨m3,Su⟩:∃ m,I.length=m:=⟨_,rfl⟩
 rw[Su];have yA:=xq.below_ tr.2;have tR:=ui.below tr.2;have lX:=Hh (HM.out _ c3 _ _ Su.symm Md.out w3 (HS.out.below yA.below) tr.own.src);clear hI Su tr xq ui JN;go_wp2_with fail
 refine lX.out.mono ?_
 rintro e w4 ⟨r4,rfl,rf⟩
 rw[OT.out]at rf;have uj:=tR.below rf.2;obtain⟨A4,c4,rfl,_⟩:=rf.own.form;obtain⟨H4,xK,xE,_⟩:=Fresh.snapB yA.holds rf;have xx:=yA.trans xK;have I1:Hid (∀ q,(Value.slice OA no oc).ownBlock=some q→H4 q=none):=fun q hq=>xK.none (HO.out q hq) (tR.lt q hq).2
 have vV:(tE prk info (j+1)).length=32:=by rw[tE,rN]
 rw[vV];have Uz:=Hh xE;clear yA xK xE rf tR lX;go_wp2_with (at_builtin;refine zh ?_)
 refine zv rfl (.tmp 32) (.tmp 33) rfl w.heap.size (.slice OA no oc) _ rfl uj A4 32 c4 (tE prk info (j+1)) rfl vV.symm (Src.of_row Uz.out.row xx.holds) (by have:=I0.out;rw[vV];omega) xx.below.size fun v' w5 zW zK hat5=>?_
 rw[show oE prk info j++tE prk info (j+1)=oE prk info (j+1) from rfl]at zW;obtain⟨A5,c5,rfl,_⟩:=zW.form
 have y8:Grows w H w5 H4:=by
  refine⟨zp xx.below zK (fun q hq=>(uj.lt q hq).1),xx.le,xx.holds.grown zK (fun q hq=>I1.out q hq),xx.fresh⟩
 rw[sC]at zW hat5⊢
 have I2:Hid (∀ q,(Value.slice A5 (32*(j+1)) c5).ownBlock=some q→H4 q=none):=fun q hq=>by
  rcases hat5 with h | ⟨g',h1,h2⟩
  ·exact I1.out q (by rw[← h,hq])
  rw[hq]at h1;injection h1 with h1
  subst h1
  exact xx.holds.none_of_ge h2
 clear uj zK hat5 xx K1 vV;have lf:IntKind.i64.wrap ((j:Int)+1+1)=(j:Int)+1+1:=IntWalk.i64_in _ (by omega);obtain⟨no',Y8⟩:∃ x,32*(j+1)=x:=⟨_,rfl⟩
 have cN:=Hh Y8;rw[Y8]at zW I2⊢;clear Y8;go_wp2_with fail
 go_roundw
 case rel=>exact⟨j+1,no',32,c5,c4,A5,A4,H4,rfl,rfl,by go_num,⟨cN.out.symm,uH.out,by rw[tE,rN]⟩,zW,I2,Uz,y8⟩
 case measure=>have:=uH.out;have:=HN.out;simp[intOf];omega):P:=h
theorem jaG{P:Prop}(h:P:=by
 go_wp2_with fail
 refine(HD.out _).mono ?_
 rintro e w1 ⟨r,rfl,hf⟩
 have zJ:=hf.own;obtain⟨RA,rc,rfl,_⟩:=zJ.form;have xZ:=hs.below hf.2;have HF:=Hh hf.2
 have HL:Hid ((zV (2:Int).toNat (n:Int).toNat).length+l.length≤1099511627776):=by
  have:=(yZ (2:Int).toNat (n:Int).toNat).2;have:=HN.out.2;rw[Hid];omega
 clear hf;go_wp2_with (at_builtin;refine zh ?_)
 refine zv rfl (.tmp 6) (.tmp 7) rfl w.heap.size _ _ rfl zJ A _ c l rfl HN.out.1 xZ (by have:=(yZ (2:Int).toNat (n:Int).toNat).2;have:=HN.out.2;omega) HF.out.size fun v' w2 ui hg2 _=>?_
 have zD:=HF.out.grown hg2 HF.out.size (fun q hq=>(zJ.lt q hq).1)
 have E:Hid (zV (2:Int).toNat (n:Int).toNat++l=yL l):=by
  rw[Hid,yL,HN.out.1];rfl
 rw[E.out]at ui;clear zJ xZ hs hg2;go_wp2_with fail
 go_ret
 exact⟨_,rfl,ui,zD⟩):P:=h
theorem ja2{P:Prop}(h:P:=by
 go_enter Tryz.func114,Tryz.ntmps114
 go_wp2_with fail
 refine(SH.out _).mono ?_
 exact jeD):P:=h
theorem ja6{P:Prop}(h:P:=by
 go_wp2_with fail
 go_ret
 exact⟨by rw[E.out];try rfl,rfl⟩):P:=h
theorem jb6{P:Prop}(h:P:=by
 clear h1 h2;go_enter Tryz.func80,Tryz.ntmps80
 go_wp2_with fail
 refine(HD.out _).mono ?_
 rintro e w1 ⟨r,rfl,hf⟩
 exact jeZ):P:=h
theorem jb8{P:Prop}(h:P:=by exact jeZ):P:=h
theorem jcc{P:Prop}(h:P:=by
 refine⟨H.le,H.pos,by rw[s3,g1,hu],by rw[g5],by omega,fun lv _=>g2 lv, ?_⟩
 cases y
 rw[ep]
 simp only[Itm.items]at g4
 subst g4
 exact⟨g3,by rw[qa];trivial⟩):P:=h
theorem jcf{P:Prop}(h:P:=by
 go_enter Tryz.func8,Tryz.ntmps8
 go_wp2_with fail
 refine CM.out.mono ?_
 rintro e w1 ⟨rfl,zY⟩
 go_wp2_with fail
 go_ret
 exact⟨by rw[D.out];try rfl,zY⟩):P:=h
theorem jc3{P:Prop}(h:P:=by
 rw[tV,if_neg (by simp[vG,Itm.kind])]
 simp[pC,Itm.kind,Itm.bytes,Itm.items,Itm.n,uu]
 omega):P:=h
theorem jex{P:Prop}(h:P:=by
 go_enter Tryz.func101,Tryz.ntmps101
 exact ja6):P:=h
theorem jeD{P:Prop}(h:P:=by
 rintro e w1 ⟨rfl,rfl⟩
 go_wp2_with fail
 go_ret3
 exact ConnSaid.err E.out rfl (Below.refl _ _)):P:=h
theorem jeQ{P:Prop}(h:P:=by
 go_wp2_with fail
 refine ST.out.mono ?_
 rintro e w2 ⟨r,rfl,hf⟩
 exact jb8):P:=h
theorem jeZ{P:Prop}(h:P:=by
 go_wp2_with fail
 go_ret
 exact⟨_,rfl,by rw[E.out];exact hf⟩):P:=h
theorem jfd{P:Prop}(h:P:=by
 have E:Hid (uA x=false):=by rw[Hid,Bool.eq_false_iff,ne_eq,ox];omega
 exact jex):P:=h
theorem jfN{P:Prop}(h:P:=by have xq:=(hG.alloc (.cells #[.int .u8 ((j:Int)+1)] 5)).alloc (.cells #[.slice TA nt tc,.slice B ni d,.slice (some ⟨wr.heap.size,0,none⟩) 1 1] 22);have ui:=(hO.alloc (.cells #[.int .u8 ((j:Int)+1)] 5)).alloc (.cells #[.slice TA nt tc,.slice B ni d,.slice (some ⟨wr.heap.size,0,none⟩) 1 1] 22);exact And.intro xq ui):P:=h
theorem jhD{P:Prop}(h:P:=by have kS:Hid ((oE prk info j).take n=pB prk info n):=dV (by have:=HJ.out.1;omega) HJ.out.2.1;exact kS):P:=h
structure Read (d:Nat) (b:List UInt8) (c:Nat) (x:Itm) (k c':Nat):Prop where
 le:k≤b.length
 pos:0<k
 enc:xB x=b.take k
 cnt:c'=c+cnt x
 lim:c'≤256
 good:∀ lv,lv+d=8→Good x lv
 nums:ep x
structure ReadL (d:Nat) (b:List UInt8) (c:Nat) (l:List Itm) (n k c':Nat):Prop where
 le:k≤b.length
 enc:ut l=b.take k
 cnt:c'=c+qg l
 lim:c'≤256
 good:∀ lv,lv+d=8→GoodL l lv
 nums:qa l
 len:l.length=n
theorem vp {α:Type}(b:List α) (k k':Nat):b.take (k+k')=b.take k++(b.drop k).take k':=List.take_add
theorem ZO {d:Nat}{p:List UInt8→Nat→PR}(hp:∀ b c x k c',p b c=.ok x k c'→Read d b c x k c') :
  ∀ (n:Nat) (b:List UInt8) (c:Nat) (l:List Itm) (k c':Nat),c≤256→vq p n b c=.ok l k c'→ReadL d b c l n k c'
 | 0,b,c,l,k,c',hc,h=>by
  rw[vq]at h;injection h with h1 h2 h3
  subst h1 h2 h3
  exact⟨by omega,by simp[ut],by simp[qg],hc,fun lv _=>by rw[GoodL];trivial,by rw[qa];trivial,rfl⟩
 | n+1,b,c,l,k,c',hc,h=>by
  rw[vq]at h
  split at h
  ·cases h
  rename_i x k1 c1 h1
  split at h
  ·cases h
  rename_i l1 k2 c2 h2
  injection h with e1 e2 e3
  subst e1 e2 e3;have r1:=hp _ _ _ _ _ h1;have r2:=ZO hp n _ _ _ _ _ r1.lim h2;have hl:=r2.le;rw[List.length_drop]at hl;have:=r1.le
  refine⟨by omega, ?_, ?_,r2.lim,fun lv hlv=>?_, ?_,by rw[List.length_cons,r2.len]⟩
  ·rw[ut,r1.enc,r2.enc,vp]
  ·rw[qg,r2.cnt,r1.cnt];omega
  ·rw[GoodL];exact⟨r1.good lv hlv,r2.good lv hlv⟩
  rw[qa];exact⟨r1.nums,r2.nums⟩
def My (last:Option (List UInt8)) (l:List Itm):Prop :=
 RJ l=true∧∀ q,last=some q→∀ x t,l=x::t→Lib.compareBytes q (xB x)<0
theorem bW:∀ a b:List UInt8,¬ Lib.compareBytes a b=0→¬ Lib.compareBytes a b<0→Lib.compareBytes b a<0
 | [],[],h,_=>absurd rfl h
 | [],_::_,_,h=>absurd (by show(-1:Int)<0;decide) h
 | _::_,[],_,_=>by show(-1:Int)<0;decide
 | x::a,y::b,h,k=>by
  rw[Lib.compareBytes]at h k⊢
  split at h
  ·rename_i h1
   rw[if_pos h1]at k
   exact absurd (by decide) k
  rename_i h1
  rw[if_neg h1]at k
  split at h
  ·rename_i h2
   rw[if_pos h2];decide
  rename_i h2
  rw[if_neg h2]at k;rw[if_neg h2,if_neg h1]
  exact bW a b h k
theorem Tg {last:Option (List UInt8)}{key:List UInt8}(h:sJ last key=none):∀ q,last=some q→Lib.compareBytes q key<0:=by
 intro q hq
 subst hq;rw[sJ]at h
 split at h
 ·cases h
 split at h
 ·cases h
 rename_i h1 h2
 exact bW _ _ h1 h2
theorem Zg {d:Nat}{p:List UInt8→Nat→PR}(hp:∀ b c x k c',p b c=.ok x k c'→Read d b c x k c') :
  ∀ (n:Nat) (b:List UInt8) (c:Nat) (last:Option (List UInt8)) (l:List Itm) (k c':Nat),c≤256→wQ p n b c last=.ok l k c'→ReadL d b c l (2*n) k c'∧My last l
 | 0,b,c,last,l,k,c',hc,h=>by
  rw[wQ]at h;injection h with h1 h2 h3
  subst h1 h2 h3
  exact⟨⟨by omega,by simp[ut],by simp[qg],hc,fun lv _=>by rw[GoodL];trivial,by rw[qa];trivial,rfl⟩,rfl,fun _ _ _ _ h=>by cases h⟩
 | n+1,b,c,last,l,k,c',hc,h=>by
  rw[wQ]at h
  split at h
  ·cases h
  rename_i x k1 c1 h1
  split at h
  ·cases h
  rename_i hk
  split at h
  ·cases h
  rename_i y k2 c2 h2
  split at h
  ·cases h
  rename_i l1 k3 c3 h3
  injection h with e1 e2 e3
  subst e1 e2 e3;have r1:=hp _ _ _ _ _ h1;have r2:=hp _ _ _ _ _ h2;obtain⟨r3,a1,a2⟩:=Zg hp n _ _ _ _ _ _ r2.lim h3;have oW:=r2.le;have JX:=r3.le;rw[List.length_drop]at oW JX;have:=r1.le
  refine⟨⟨by omega, ?_, ?_,r3.lim,fun lv hlv=>?_, ?_,by rw[List.length_cons,List.length_cons,r3.len];omega⟩, ?_,fun q hq x' t ht=>?_⟩
  ·rw[ut,ut,r1.enc,r2.enc,r3.enc,← List.append_assoc,← vp,← vp]
  ·rw[qg,qg,r3.cnt,r2.cnt,r1.cnt];omega
  ·rw[GoodL,GoodL];exact⟨r1.good lv hlv,r2.good lv hlv,r3.good lv hlv⟩
  ·rw[qa,qa];exact⟨r1.nums,r2.nums,r3.nums⟩
  ·cases l1 with
   | nil=>rfl
   | cons z l2 =>
   rw[RJ,a1];have:=a2 _ rfl z l2 rfl;rw[← r1.enc]at this
   simp[this]
  injection ht with ht _
  subst ht;rw[r1.enc]
  exact Tg hk q hq
theorem dL {x:Itm}(h:∀ lv,tV x lv=true) (hi:x.items=[]) (h5:x.kind≠5):∀ lv,Good x lv:=fun lv =>
 Good.of (h lv) (by rw[hi,GoodL];trivial) (fun h=>absurd h h5)
theorem ow:∀ (d:Nat) (b:List UInt8) (c:Nat) (x:Itm) (k c':Nat),ze d b c=.ok x k c'→Read d b c x k c':=by
 intro d
 induction d using Nat.strongRecOn with
 | _ d ih =>
 intro b c x k c' h
 rw[ze.eq_def]at h
 simp only at h
 split at h
 ·cases h
 rename_i hc
 split at h
 ·cases h
 rename_i f n k1 hh
 have H:=ws hh;have xv:=H.low;have hf:=H.f_lt
 split at h
 ·rename_i h1
  injection h with e1 e2 e3
  subst e1 e2 e3;have hk:f/32=0∨f/32=1:=by omega
  refine⟨H.le,H.pos, ?_,by simp[cnt,qg],by omega,fun lv _=>dL (fun lv=>?_) rfl (by simp only[Itm.kind];omega) lv, ?_⟩
  ·rw[← H.enc (by omega),um,if_neg (by simp only[Itm.kind];omega),if_neg (by simp only[Itm.kind];omega)]
   have e:sf (.mk (f/32:Nat) n [] [])=n:=by
    rw[sf,if_neg (by simp only[Itm.kind];omega),if_neg (by simp only[Itm.kind];omega),if_neg (by simp only[Itm.kind];omega)];rfl
   rw[e,show(Itm.mk (f/32:Nat) n [] []).kind.toNat=f/32 from rfl]
   simp[Itm.bytes,Itm.items,ut]
  ·rw[tV]
   rcases hk with hk | hk <;> simp[vG,tY,Itm.kind,Itm.bytes,Itm.items,hk]
  rw[ep];exact⟨H.n_lt,by rw[qa];trivial⟩
 rename_i h1
 split at h
 ·rename_i h3
  split at h
  ·cases h
  rename_i h4
  split at h
  ·cases h
  rename_i h5
  injection h with e1 e2 e3
  subst e1 e2 e3;have hk:f/32=2∨f/32=3:=by omega
  have mN:=H.le;have uu:((b.drop k1).take n).length=n:=by rw[List.length_take,List.length_drop];omega
  have hn:=H.n_lt;have cH:=H.pos
  refine⟨by omega,by omega, ?_,by simp[cnt,qg],by omega,fun lv _=>dL (fun lv=>?_) rfl (by simp only[Itm.kind];omega) lv, ?_⟩
  ·rw[vp,← H.enc (by omega),um,if_neg (by simp only[Itm.kind];omega),if_neg (by simp only[Itm.kind];omega)]
   have e:sf (.mk (f/32:Nat) 0 ((b.drop k1).take n) [])=n:=by
    rw[sf,if_pos (by simp only[Itm.kind];omega)]
    exact uu
   rw[e,show(Itm.mk (f/32:Nat) 0 ((b.drop k1).take n) []).kind.toNat=f/32 from rfl]
   simp[Itm.bytes,Itm.items,ut]
  ·rw[tV]
   rcases hk with hk | hk
   ·simp[vG,tY,Itm.kind,Itm.bytes,Itm.items,Itm.n,hk]
   have:Lib.validD ((b.drop k1).take n)=true:=by
    cases h:Lib.validD ((b.drop k1).take n) with
    | true=>rfl
    | false=>exact absurd ⟨hk,h⟩ h5
   simp[vG,tY,Itm.kind,Itm.bytes,Itm.items,Itm.n,hk,this]
  rw[ep];exact⟨by omega,by rw[qa];trivial⟩
 rename_i h3
 split at h
 ·rename_i h7
  split at h
  ·cases h
  rename_i y hs
  injection h with e1 e2 e3
  subst e1 e2 e3;have hu:u8 f=u8 (7*32+f%32):=by rw[show 7*32+f%32=f by omega]
  rcases Nat.lt_or_ge (f%32) 24 with hl | hl
  ·obtain⟨s1,s2,s3⟩:=H.small hl;obtain⟨g1,g2,g3,g4,g5⟩:=qw (low:=f%32) (t:=[]) (by omega) (fun _=>⟨s1,rfl⟩) (fun h=>by omega) hs
   exact jcc
  obtain⟨s1,t,s2,s3,s4⟩:=H.wide hl;obtain⟨g1,g2,g3,g4,g5⟩:=qw (low:=f%32) (t:=t) (by omega) (fun h=>by omega) (fun _=>⟨s2,s4⟩) hs
  exact jcc
 rename_i h7
 cases d with
 | zero=>cases h
 | succ d =>
 simp only at h
 have hd:d<d+1:=by omega
 have cH:=H.pos
 split at h
 ·rename_i h6
  split at h
  ·cases h
  rename_i y k2 c2 hy
  injection h with e1 e2 e3
  subst e1 e2 e3;have r:=ih d hd _ _ _ _ _ hy;have mN:=H.le;have hl:=r.le;rw[List.length_drop]at hl
  refine⟨by omega,by omega, ?_, ?_,r.lim,fun lv hlv=>Good.of ?_ ?_ (fun h=>by simp only[Itm.kind]at h;omega), ?_⟩
  ·rw[vp,← H.enc (by omega),um,if_neg (by simp only[Itm.kind];omega),if_neg (by simp only[Itm.kind];omega),h6];have e:sf (.mk 6 n [] [y])=n:=by simp[sf,Itm.kind,Itm.n]
   rw[e,← r.enc]
   simp[Itm.kind,Itm.bytes,Itm.items,ut]
  ·rw[cnt,qg,qg,r.cnt];omega
  ·rw[tV,if_neg (by simp[vG,Itm.kind])]
   simp[pC,Itm.kind,Itm.bytes,Itm.items,Itm.n]
   omega
  ·simp only[Itm.items]
   rw[GoodL,GoodL]
   exact⟨r.good _ (by omega),trivial⟩
  rw[ep,qa,qa]
  exact⟨H.n_lt,r.nums,trivial⟩
 rename_i h6
 split at h
 ·rename_i h5
  split at h
  ·cases h
  rename_i l k2 c2 hy
  injection h with e1 e2 e3
  subst e1 e2 e3;obtain⟨r,asc,_⟩:=Zg (ih d hd) _ _ _ _ _ _ _ (by omega) hy;have mN:=H.le;have hl:=r.le;have uu:=r.len;rw[List.length_drop]at hl
  refine⟨by omega,by omega, ?_, ?_,r.lim,fun lv hlv=>Good.of ?_ ?_ (fun _=>asc), ?_⟩
  ·rw[vp,← H.enc (by omega),um,if_neg (by simp only[Itm.kind];omega),if_neg (by simp only[Itm.kind];omega),h5];have e:sf (.mk 5 0 [] l)=n:=by simp[sf,Itm.kind,Itm.n,Itm.items,uu]
   rw[e,← r.enc]
   simp[Itm.kind,Itm.bytes,Itm.items]
  ·rw[cnt,r.cnt];omega
  ·exact jc3
  ·exact r.good _ (by omega)
  rw[ep]
  exact⟨by omega,r.nums⟩
 rename_i h5
 split at h
 ·cases h
 rename_i l k2 c2 hy
 injection h with e1 e2 e3
 subst e1 e2 e3;have h4:f/32=4:=by omega
 have r:=ZO (ih d hd) _ _ _ _ _ _ (by omega) hy;have mN:=H.le;have hl:=r.le;have uu:=r.len;rw[List.length_drop]at hl
 refine⟨by omega,by omega, ?_, ?_,r.lim,fun lv hlv=>Good.of ?_ ?_ (fun h=>by simp only[Itm.kind]at h;omega), ?_⟩
 ·rw[vp,← H.enc (by omega),um,if_neg (by simp only[Itm.kind];omega),if_neg (by simp only[Itm.kind];omega),h4];have e:sf (.mk 4 0 [] l)=n:=by simp[sf,Itm.kind,Itm.n,Itm.items,uu]
  rw[e,← r.enc]
  simp[Itm.kind,Itm.bytes,Itm.items]
 ·rw[cnt,r.cnt];omega
 ·exact jc3
 ·exact r.good _ (by omega)
 rw[ep]
 exact⟨by omega,r.nums⟩
def VW (p:List UInt8→Nat→PR):Prop:=∀ b c x k c',p b c=.ok x k c'→c<c'∧c'≤256
theorem N7 (x:Itm):0<cnt x:=by rw[Qn];omega
theorem vu (d:Nat):VW (ze d):=fun b c x k c' h=>by
 have r:=ow d b c x k c' h;have:=N7 x
 exact⟨by rw[r.cnt];omega,r.lim⟩
theorem Vk {p:List UInt8→Nat→PR}(hp:VW p):∀ (m n:Nat) (b:List UInt8) (c:Nat) (last:Option (List UInt8)),256<c+m→256<c+n→c≤256→wQ p m b c last=wQ p n b c last
 | 0,n,b,c,last,h1,_,h3=>by omega
 | m+1,0,b,c,last,_,h2,h3=>by omega
 | m+1,n+1,b,c,last,h1,h2,h3=>by
  rw[wQ,wQ]
  cases h:p b c with
  | err e=>rfl
  | ok x k c1 =>
  have a1:=hp _ _ _ _ _ h
  simp only
  cases sJ last (b.take k) with
  | some e=>rfl
  | none =>
  simp only
  cases h':p (b.drop k) c1 with
  | err e=>rfl
  | ok y k2 c2 =>
  have a2:=hp _ _ _ _ _ h'
  simp only
  rw[Vk hp m n (b.drop (k+k2)) c2 (some (b.take k)) (by omega) (by omega) a2.2]
def yz (b:List UInt8):PR:=ze 8 (b.take 4096) 0
theorem vO {b:List UInt8}{x:Itm}{k c:Nat}(h:yz b=.ok x k c):k≤b.length∧k≤4096∧0<k∧xB x=b.take k∧Good x 0∧ep x∧cnt x≤256:=by
 have r:=ow _ _ _ _ _ _ h;have hl:=r.le;rw[List.length_take]at hl;have h1:=r.cnt;have h2:=r.lim
 refine⟨by omega,by omega,r.pos, ?_,r.good 0 rfl,r.nums,by omega⟩
 rw[r.enc,List.take_take,show min k 4096=k by omega]
def xz (b:List UInt8):Except Nat Itm :=
 if 4096<b.length then .error 8 else match yz b with
 | .err e=>.error e
 | .ok x k _=>if k<b.length then .error 9 else .ok x
structure Ext where
 label:Int
 has:Bool
 val:List UInt8
def mp (x:Itm) (lim:Nat):Option Int :=
 if x.kind=0∧x.n≤lim then some (x.n:Int) else if x.kind=1∧x.n<lim then some (-1-(x.n:Int)) else none
def qb (x:Ext):Bool:=decide (-65535≤x.label)&&decide (x.label≤65535)&&decide (x.val.length≤600)&&(x.has||decide (x.val.length=0))
def xa (l:List Ext):Bool:=decide (l.length≤4)&&l.all qb
def va (n:Int):List UInt8:=if n<0 then zV 1 (-1-n).toNat else zV 0 n.toNat
def yL (b:List UInt8):List UInt8:=zV 2 b.length++b
def Ul (x:Ext):List UInt8:=va x.label++if x.has then yL x.val else []
def vh:List Ext→List UInt8
 | []=>[]
 | x::l=>Ul x++vh l
def kI (l:List Ext):Except Nat (List UInt8):=if xa l then .ok (vh l) else .error 1
def xD:Nat→List Ext→List UInt8→Except Nat (List Ext)
 | 0,out,_=>.ok out
 | n+1,out,b =>
 if b.length=0 then .ok out
 else match yz b with
  | .err e=>.error e
  | .ok x k _ =>
  if x.kind=2 then
   (match out.getLast? with
   | none=>.error 4
   | some l =>
   if l.has then .error 4 else if 600<x.bytes.length then .error 8
   else xD n (out.dropLast++[{ l with has:=true,val:=x.bytes }]) (b.drop k))
  else match mp x 65535 with
   | none=>.error 4
   | some v=>if out.length=4 then .error 8 else xD n (out++[{ label:=v,has:=false,val:=[] }]) (b.drop k)
def tx (b:List UInt8):Except Nat (List Ext):=xD (b.length+1) [] b
theorem km:∀ (n m:Nat) (out:List Ext) (b:List UInt8),b.length<n→b.length<m→xD n out b=xD m out b
 | 0,_,_,_,h,_=>by omega
 | _+1,0,_,_,_,h=>by omega
 | n+1,m+1,out,b,h1,h2=>by
  rw[xD,xD]
  by_cases h0:b.length=0
  ·rw[if_pos h0,if_pos h0]
  rw[if_neg h0,if_neg h0]
  cases hp:yz b with
  | err e=>rfl
  | ok x k c =>
  obtain⟨k1,_,k2,_⟩:=vO hp;have hd:(b.drop k).length=b.length-k:=List.length_drop
  simp only
  repeat' split
  all_goals first | rfl | exact km n m _ _ (by omega) (by omega)
def uA (c:UInt8):Bool:=decide (c.toNat<24)||decide (32≤c.toNat)&&decide (c.toNat<56)
def oZ (c:List UInt8):List UInt8 :=
 match c with
 | [x]=>if uA x then [x] else yL [x]
 | _=>yL c
def zC (b:List UInt8):Except Nat (List UInt8×Nat) :=
 match b with
 | []=>.error 2
 | x::t =>
 if uA x then .ok ([x],1)
 else if x.toNat<64∨88<x.toNat then .error 4
 else if 7<x.toNat-64 then .error 8
 else if b.length<1+(x.toNat-64) then .error 2
 else if x.toNat-64=1∧uA (b.getD 1 0) then .error 4
 else .ok (t.take (x.toNat-64),1+(x.toNat-64))
def twice:List Int→Bool
 | []=>false
 | x::l=>l.contains x||twice l
def xf (l:List Int):Bool:=decide (1≤l.length)&&decide (l.length≤8)&&l.all (fun n=>decide (0≤n)&&decide (n≤65535)) && !twice l
structure First where
 method:Int
 suites:List Int
 gx:List UInt8
 conn:List UInt8
 ext:List Ext
def ob:List Int→List UInt8
 | []=>[]
 | n::l=>va n++ob l
def un (l:List Int):List UInt8:=if l.length=1 then ob l else zV 4 l.length++ob l
def bX (f:First):Bool:=decide (0≤f.method)&&decide (f.method≤3)&&xf f.suites&&xa f.ext&&decide (1≤f.gx.length)&&decide (f.gx.length≤64)&&decide (f.conn.length≤7)
def Qo (f:First):List UInt8:=va f.method++un f.suites++yL f.gx++oZ f.conn++vh f.ext
def pF (b:List UInt8):Except Nat (List UInt8):=if 600<b.length then .error 1 else .ok b
def vw (f:First):Except Nat (List UInt8):=if bX f then pF (Qo f) else .error 1
def vj:List Itm→Option (List Int)
 | []=>some []
 | x::l=>match mp x 65535 with
  | none=>none
  | some v=>if v<0 then none else match vj l with
   | none=>none
   | some t=>some (v::t)
def xo (x:Itm):Except Nat (List Int) :=
 if x.kind=0 then(if x.n≤65535 then .ok [(x.n:Int)] else .error 4)
 else if x.kind≠4∨x.items.length<2 then .error 4
 else match vj x.items with
  | none=>.error 4
  | some l=>if twice l then .error 7 else if 8<l.length then .error 8 else .ok l
def yS (b:List UInt8):Except Nat First :=
 if 600<b.length then .error 8
 else match yz b with
  | .err e=>.error e
  | .ok x k _ =>
  if x.kind≠0∨3<x.n then .error 4
  else match yz (b.drop k) with
   | .err e=>.error e
   | .ok y k2 _=>match xo y with
    | .error e=>.error e
    | .ok l=>match yz ((b.drop k).drop k2) with
     | .err e=>.error e
     | .ok z k3 _ =>
     if z.kind≠2∨z.bytes.length<1∨64<z.bytes.length then .error 4
     else match zC (((b.drop k).drop k2).drop k3) with
      | .error e=>.error e
      | .ok (c,k4)=>match tx ((((b.drop k).drop k2).drop k3).drop k4) with
       | .error e=>.error e
       | .ok ext=>.ok ⟨(x.n:Int),l,z.bytes,c,ext⟩
theorem pq (m n:Int) (w:World) (iM:0≤m) (hm:m<8) (h0:0≤n) (h1:n<18446744073709551616) :
  Calls Tryz.prog 84 #[.int .u8 m,.int .u64 n] w fun e w'=>∃ r,e=.returned r∧Fresh w (zV m.toNat n.toNat) r w':=by
 obtain⟨m',JZ⟩:=Int.eq_ofNat_of_zero_le iM;obtain⟨n',Ou⟩:=Int.eq_ofNat_of_zero_le h0;have HM:=Hh JZ;have HN:=Hh Ou;have H1:=Hh h1;clear h1 JZ Ou;go_enter Tryz.func84,Tryz.ntmps84
 go_wp2
 ·exact jbd
 ·exact jaX
 ·exact jaN
 ·exact jaI
 go_ret
 obtain rfl:=HM.out;obtain rfl:=HN.out;rw[Int.toNat_natCast,Int.toNat_natCast];have iK:(4294967296:Int)≤n':=by with_reducible assumption
 have Ob:=H1.out
 refine⟨_,rfl,Fresh.lit _ _ _ 9 ?_ ?_ ?_⟩
 ·rw[yM,if_neg (by omega),if_neg (by omega),if_neg (by omega),if_neg (by omega)]
 ·exact jeP
 rw[zV,if_neg (by omega),if_neg (by omega),if_neg (by omega),if_neg (by omega)]
 simp only[List.map_cons,List.map_nil,yC,be8,Nat.reduceMul,Nat.reduceSub,Nat.reducePow,List.nil_append,List.cons_append]
 have e27':=sP m' 27 (by omega) (by omega);rw[show((27:Nat):Int)=27 from rfl]at e27';rw[e27',Nat.mod_eq_of_lt (show m'*32+27<256 by omega),Nat.div_one];rfl
theorem ox (x:UInt8):uA x=true↔x.toNat<24∨(32≤x.toNat∧x.toNat<56):=by simp[uA]
theorem lB (n:Int) (h1 : -9223372036854775808≤n) (h2:n≤9223372036854775807) (w:World) :
  Calls Tryz.prog 80 #[.int .i64 n] w fun e w'=>∃ r,e=.returned r∧Fresh w (va n) r w':=by
 by_cases h0:n<0
 ·have HD:=Hh (fun w=>pq 1 (-1-n) w (by omega) (by omega) (by omega) (by omega));have K1:IntKind.u64.wrap (-1-n) = -1-n:=by rw[IntKind.wrap_u64];omega
  have K0:IntKind.i64.wrap (-1-n) = -1-n:=IntWalk.i64_in _ (by omega);have E:Hid (va n=zV 1 (-1-n).toNat):=by rw[Hid,va,if_pos h0]
  exact jb6
 have hn:=Int.not_lt.1 h0;have HD:=Hh (fun w=>pq 0 n w (by omega) (by omega) (by omega) (by omega));have K1:IntKind.u64.wrap n=n:=by rw[IntKind.wrap_u64];omega
 have E:Hid (va n=zV 0 n.toNat):=by rw[Hid,va,if_neg h0]
 exact jb6
theorem vB {A:Option Addr}{n c:Nat}{l:List UInt8}(hn:n=l.length) (hl:l.length≤1099511627000) (w:World) (hs:Src w A (l.map zu)) :
  Calls Tryz.prog 39 #[.slice A n c] w fun e w'=>∃ r,e=.returned r∧Fresh w (yL l) r w':=by
 have HD:=Hh (fun w=>pq 2 (n:Int) w (by omega) (by omega) (by omega) (by omega));have K1:IntKind.u64.wrap (n:Int)=(n:Int):=by rw[IntKind.wrap_u64];omega
 have HN:=Hh (And.intro hn hl);clear hn hl;go_enter Tryz.func39,Tryz.ntmps39
 exact jaG
theorem iV {A:Option Addr}{n c:Nat}{l:List UInt8}(hn:n=l.length) (hl:l.length≤1099511627000) (w:World) (hs:Src w A (l.map zu)) :
  Calls Tryz.prog 44 #[.slice A n c] w fun e w'=>∃ r,e=.returned r∧Fresh w (yL l) r w':=by
 have HD:=Hh (fun w=>te 2 (n:Int) w (by omega) (by omega) (by omega) (by omega));have K1:IntKind.u64.wrap (n:Int)=(n:Int):=by rw[IntKind.wrap_u64];omega
 have HN:=Hh (And.intro hn hl);clear hn hl;go_enter Tryz.func44,Tryz.ntmps44
 exact jaG
theorem tJ (x:UInt8) (w:World):Calls Tryz.prog 101 #[.int .u8 (x.toNat:Int)] w fun e w'=>e=.returned (.bool (uA x))∧w'=w:=by
 by_cases h1:x.toNat<24
 ·have z1:(x.toNat:Int)<24:=by omega
  have E:Hid (uA x=true):=(ox x).2 (.inl h1);exact jex
 have z1:¬ (x.toNat:Int)<24:=by omega
 by_cases h2:32≤x.toNat
 ·have z2:(32:Int)≤(x.toNat:Int):=by omega
  by_cases h3:x.toNat<56
  ·have z3:(x.toNat:Int)<56:=by omega
   have E:Hid (uA x=true):=(ox x).2 (.inr ⟨h2,h3⟩);exact jex
  have z3:¬ (x.toNat:Int)<56:=by omega
  exact jfd
 have z2:¬ (32:Int)≤(x.toNat:Int):=by omega
 exact jfd
theorem Zu {A:Option Addr}{n c:Nat}{ls:List (List UInt8)}(hn:n=ls.length) (hl:ls.length≤1099511627000) (ht:ls.flatten.length≤1099511627000) (w:World) (hs:SrcR w A ls) :
  Calls Tryz.prog 43 #[.slice A n c] w fun e w'=>∃ r,e=.returned r∧Fresh w (ls.flatten) r w':=by
 have HN:=jgK;clear hn hl ht;go_enter Tryz.func43,Tryz.ntmps43
 exact jaa
theorem lz {A:Option Addr}{n c:Nat}{ls:List (List UInt8)}(hn:n=ls.length) (hl:ls.length≤1099511627000) (ht:ls.flatten.length≤1099511627000) (w:World) (hs:SrcR w A ls) :
  Calls Tryz.prog 40 #[.slice A n c] w fun e w'=>∃ r,e=.returned r∧Fresh w (zV 4 ls.length++ls.flatten) r w':=by
 have HD:=Hh (fun w=>pq 4 (n:Int) w (by omega) (by omega) (by omega) (by omega));have K1:IntKind.u64.wrap (n:Int)=(n:Int):=by rw[IntKind.wrap_u64];omega
 have HN:=jgK;clear hn hl ht;go_enter Tryz.func40,Tryz.ntmps40
 go_wp2_with fail
 refine(HD.out _).mono ?_
 rintro e w1 ⟨r,rfl,hf⟩
 have zJ:=hf.own;obtain⟨RA,rc,rfl,_⟩:=zJ.form;have zY:=hf.2;have E0:Hid (zV (4:Int).toNat (n:Int).toNat=zV 4 ls.length):=by rw[Hid,HN.out.1];rfl
 have Un:OwnB w1 w.heap.size (.slice RA (zV (4:Int).toNat (n:Int).toNat).length rc) (zV 4 ls.length):=by rw[← E0.out];exact zJ
 have E1:Hid ((zV (4:Int).toNat (n:Int).toNat).length=(zV 4 ls.length).length):=by rw[Hid,E0.out]
 obtain⟨ik,Gl⟩:∃ ik,(zV (4:Int).toNat (n:Int).toNat).length=ik:=⟨_,rfl⟩
 rw[Gl]at Un E1⊢;clear hf zJ Gl;go_wp2_with fail
 go_loopw [3,5,12] (fun v1 v5 v2 wr=>∃ (k:Nat) (VA:Option Addr) (vc vn:Nat) (l:List UInt8),k≤ls.length∧v2=.int .i64 (k:Int)∧v1=.slice VA vn vc∧OwnB wr w.heap.size (.slice VA vn vc) l∧vn=l.length∧(zV 4 ls.length++ls.flatten=l++(ls.drop k).flatten)∧Below w.heap.size w wr) (fun _ _ v2 _=>ls.length-(intOf v2).toNat)
 case atStart=>exact⟨0,_,_,_,_,Nat.zero_le _,rfl,rfl,Un,E1.out,by simp,zY⟩
 case round =>
 clear Un zY;obtain⟨k,VA,vc,vn,l,uh,rfl,rfl,xe,iO,mg,xW⟩:=hrel;have HV:=Hh iO;have HE:=Hh mg;clear iO mg
 by_cases z9:k<ls.length
 ·obtain⟨ib,io,rfl,hr⟩:=hs (by omega);have iD:(k:Int)<(n:Int):=by have:=HN.out.1;omega
  obtain⟨Aj,cj,c0,ah⟩:=hr k z9;have q0:=(xW.cell (World.block_lt_of_cell? w _ c0)).trans c0;have jq:=ah.below xW;have fQ:(k:Int)+1≤9223372036854775807:=by have:=HN.out.2.1;omega
  have HT:Hid (l.length+ls[k].length≤1099511627776):=by
   have h1:=congrArg List.length HE.out;rw[xC ls k z9]at h1
   simp only[List.length_append]at h1
   have:=HN.out.2.2;have:=(yZ 4 ls.length).2;rw[Hid];omega
  have HF:Hid (zV 4 ls.length++ls.flatten=(l++ls[k])++(ls.drop (k+1)).flatten):=by rw[Hid,HE.out,xC ls k z9,List.append_assoc]
  clear hr c0 ah;go_wp2_with (at_builtin;refine zh ?_)
  unfold zZ
  obtain rfl:=HV.out
  refine zv rfl (.tmp 16) (.tmp 17) rfl w.heap.size _ _ rfl xe Aj _ cj ls[k] rfl rfl jq HT.out xW.size fun v' w7 xj xQ hat7=>?_
  exact jdT
 have kX:k=ls.length:=by omega
 subst kX;have iD:¬ ((ls.length:Int)<(n:Int)):=by have:=HN.out.1;omega
 have HZ:Hid (zV 4 ls.length++ls.flatten=l):=by rw[Hid,HE.out,List.drop_length];simp
 exact jel
theorem gA {A:Option Addr}{n c:Nat}{ls:List (List UInt8)}(hn:n=ls.length) (hl:ls.length≤1099511627000) (ht:ls.flatten.length≤1099511627000) (w:World) (hs:SrcR w A ls) :
  Calls Tryz.prog 123 #[.slice A n c] w fun e w'=>∃ r,e=.returned r∧Fresh w (ls.flatten) r w':=by
 have HN:=jgK;clear hn hl ht;go_enter Tryz.func123,Tryz.ntmps123
 exact jaa
def Qg (w:World) (H:Snap) (prk info:List UInt8) (n:Nat) (e:Ending) (w':World):Prop:=∃ A c H',e=.returned (.tuple #[.slice A n c,.int .i64 0])∧Grows w H w' H'∧IsBytes H' A c (pB prk info n)
theorem dV {prk info:List UInt8}{n j:Nat}(h1:n≤32*j) (h2:32*j<n+32):(oE prk info j).take n=pB prk info n:=by
 rw[pB,show(n+31)/32=j by omega]
theorem aB (k:Nat) (h:k<256):zu (UInt8.ofNat k)=.int .u8 (k:Int):=by
 rw[zu,UInt8.toNat_ofNat_of_lt' (by simpa using h)]
theorem Wz {A:Option Addr}{c:Nat}{prk:List UInt8}{np:Nat}(hn:np=prk.length) (wP:prk.length≤1099511627) {B:Option Addr}{d:Nat}{info:List UInt8}{ni:Nat}(hk:ni=info.length) (hmb:info.length≤1099510000) (n:Nat) (eJ:n≤8160) {H:Snap}(w:World) (hH:Holds w H) (hS:Src w A (prk.map zu)) (hT:Src w B (info.map zu)) :
  Calls Tryz.prog 122 #[.slice A np c,.slice B ni d,.int .i64 (n:Int)] w (Qg w H prk info n):=by
 have HN:=Hh (And.intro hn (And.intro hk (And.intro hmb eJ)));have HS:=Hh hS;have HT:=Hh hT;have HM:=Hh (fun(B':Option Addr) (d':Nat) (b:List UInt8) (k:Nat) (hk:k=b.length) (hmb:b.length≤1099511000) (w:World) (hS:Src w A (prk.map zu)) (hT:Src w B' (b.map zu))=>Pt (c:=c) (d:=d') hn wP hk hmb w hS hT);have n1:¬ ((n:Int)<0):=by omega
 have n2:¬ ((8160:Int)<(n:Int)):=by omega
 have aZ:=Grows.refl hH;clear hn wP hk hmb eJ hS hT hH;go_enter Tryz.func122,Tryz.ntmps122
 go_wp2_with fail
 go_loopw [8,9,10] (fun v8 v9 v10 wr=>∃ (j no nt oc tc:Nat) (OA TA:Option Addr) (Hr:Snap),v8=.slice OA no oc∧v9=.slice TA nt tc∧v10=.int .i64 ((j:Int)+1)∧Hid (no=32*j∧32*j<n+32∧nt=(tE prk info j).length)∧OwnB wr w.heap.size (.slice OA no oc) (oE prk info j)∧Hid (∀ q,(Value.slice OA no oc).ownBlock=some q→Hr q=none)∧Hid (IsBytes Hr TA tc (tE prk info j))∧Grows w H wr Hr) (fun _ _ v10 _=>300-(intOf v10).toNat)
 case atStart=>exact⟨0,0,0,0,0,none,none,H,rfl,rfl,rfl,⟨rfl,by omega,rfl⟩,OwnB.nil _ _,(fun q hq=>by cases hq),IsBytes.nil _,aZ⟩
 case round =>
 clear aZ;obtain⟨j,no,nt,oc,tc,OA,TA,Hr,rfl,rfl,rfl,HJ,hO,HO,DK,hG⟩:=hrel
 by_cases z9:(no:Int)<(n:Int)
 ·have E6:(j:Int)+1<256:=by have:=HJ.out;have:=HN.out;omega
  have uH:Hid (32*(j+1)<n+32):=by have:=HJ.out.1;rw[Hid];omega
  have I0:Hid ((oE prk info j).length≤8192):=by have:=HJ.out;have:=HN.out;rw[Hid,sC];omega
  have K1:IntKind.u8.wrap ((j:Int)+1)=(j:Int)+1:=IntWalk.u8_in _ (by omega);have hb:=hG.below
  have oW:=SrcR.lit3 (n1:=nt) (c1:=tc) (n2:=ni) (c2:=d) (n3:=1) (c3:=1) (wr.alloc (.cells #[.int .u8 ((j:Int)+1)] 5)) 22 HJ.out.2.2 HN.out.2.1 (l3:=[UInt8.ofNat (j+1)]) rfl
   ((Src.of_row DK.out.row hG.holds).alloc _) ((HT.out.below hb).alloc _) (Src.new wr #[.int .u8 ((j:Int)+1)] 5 wr.heap.size rfl _ (by simp only[List.map_cons,List.map_nil];rw[aB (j+1) (by omega),Int.natCast_add];rfl))
  obtain⟨xq,ui⟩:=jfN;obtain⟨P0,al⟩:∃ P,wr.heap.size=P:=⟨_,rfl⟩
  obtain⟨w1,tv⟩:∃ w1,wr.alloc (.cells #[.int .u8 ((j:Int)+1)] 5)=w1:=⟨_,rfl⟩
  rw[al,tv]at oW xq ui;have jC:w1.heap.size=P0+1:=by rw[← tv,za,al]
  obtain⟨w2,qE⟩:∃ w2,w1.alloc (.cells #[.slice TA nt tc,.slice B ni d,.slice (some ⟨P0,0,none⟩) 1 1] 22)=w2:=⟨_,rfl⟩
  rw[qE]at oW xq ui;rw[jC]at oW;have HW:=Hh (And.intro al (And.intro tv qE));have JN:=Hh (gK (n:=3) (c:=3) rfl (by simp) (by have h1:=ku prk info j;have h2:=HN.out.2.2.1;simp;omega) w2 oW);exact jah
 have kS:=jhD;have tu:=sC prk info j;have rj:n≤(oE prk info j).length:=by rw[tu];have:=HJ.out.1;omega
 obtain⟨H6,Is,Im,vF,_,wS⟩:=hO.snap hG.holds (fun q hq=>HO.out q (by cases OA with | none=>cases hq | some p=>exact hq));have WZ:=wS.le;have Gx:(n:Int)≤(oc:Int):=by omega
 have HR:Hid (∃ A' c',A'=A'∧c'=c'):=⟨0,0,rfl,rfl⟩
 have y8:Grows w H wr H6:=⟨hG.below,hG.le.trans Is,Im,fun q o hq=>by
  rcases vF q o hq with h | h
  ·exact hG.fresh q o h
  exact .inr (hO.lt q (by cases OA with | none=>cases h | some p=>exact h)).1⟩
 have Cl:=Hh (wS.take' n);have HB7:=Hh wS.max;clear hO hG Is Im vF tu WZ rj wS HR;go_wp2_with fail
 go_ret2
 refine⟨_,_,H6,rfl,y8, ?_⟩
 rw[← kS.out]
 exact⟨by rw[List.length_take];omega,by have:=HB7.out;omega,Cl.out.row⟩
def o9 (label:Nat) (ctx:List UInt8) (n:Nat):List UInt8:=va label++yL ctx++va n
def Uw (prk:List UInt8) (label:Nat) (ctx:List UInt8) (n:Nat):List UInt8:=pB prk (o9 label ctx n) n
theorem Zb (prk:List UInt8) (label:Nat) (ctx:List UInt8) (n:Nat):(Uw prk label ctx n).length=n:=by
 rw[Uw,pB,List.length_take,sC]
 omega
theorem kv (n:Nat):va (n:Int)=zV 0 n:=by rw[va,if_neg (by omega),Int.toNat_natCast]
theorem Td (label:Nat) (ctx:List UInt8) (n:Nat):[zV 0 label,yL ctx,zV 0 n].flatten=o9 label ctx n:=by
 rw[o9,kv,kv]
 simp
theorem Tc (label:Nat) (ctx:List UInt8) (n:Nat):[va label,yL ctx,va n].flatten=o9 label ctx n:=by
 rw[o9]
 simp
theorem dM (label:Nat) (ctx:List UInt8) (n:Nat):(o9 label ctx n).length≤ctx.length+27:=by
 rw[o9,kv,kv,yL,List.length_append,List.length_append,List.length_append];have h1:=(yZ 0 label).2;have h2:=(yZ 0 n).2;have h3:=(yZ 2 ctx.length).2
 omega
def tm (l:List UInt8):List UInt8:=zV 3 l.length++l
theorem fW {w:World}{ops:Array Oper}{rest:List Oper}{o:Oper}{a:Act}{Q:Exit→Act→World→Prop}(hgd:o.guard=none) (s x:Operand)
  (ho:o.op=.call { callee:=.builtin .append,args:=#[s,x],argTypes:=#[22,9] })
  (base:Nat) (v:Value) (l:List UInt8) (hs:a.eval s=v) (tW:OwnB w base v l) (t:ByteArray) (hx:a.eval x=.string t)
  (uu:l.length+t.size≤1099511627776) (qd:base≤w.heap.size)
  (h:∀ v' w',OwnB w' base v' (l++t.data.toList)→w.grownBy w' v.ownBlock→wpList Tryz.prog ops Q rest (a.put o.dst v') w') :
  wpList Tryz.prog ops Q (o::rest) a w:=by
 obtain⟨i0,og,n9,rx,oN⟩:=info_parts rX
 refine Lib.wpList_append_own_string w hgd s x _ _ ho base 5 i0 Tryz.underlying22 Tryz.underlying9 og n9 rx oN v l.length (l.map zu) hs tW t hx (by simp only[maxLen];omega) (by omega) qd fun v' w' h2 h3 _=>h v' w' ?_ h3
 have hl:(l++t.data.toList).length=l.length+t.size:=by rw[List.length_append,Array.length_toList];rfl
 unfold OwnB
 rw[hl,List.map_append]
 exact h2
theorem e8 (s:ByteArray) (hl:s.size≤1099511627000) (w:World) :
  Calls Tryz.prog 41 #[.string s] w fun e w'=>∃ r,e=.returned r∧Fresh w (tm s.data.toList) r w':=by
 obtain⟨n,hn⟩:∃ n,s.size=n:=⟨_,rfl⟩
 have HD:=Hh (fun w=>pq 3 (n:Int) w (by omega) (by omega) (by omega) (by omega));have K1:IntKind.u64.wrap (n:Int)=(n:Int):=by rw[IntKind.wrap_u64];omega
 have HN:=Hh (And.intro hn hl);have Iv:((s.size:Nat):Int)=(n:Int):=by rw[hn]
 clear hn hl;go_enter Tryz.func41,Tryz.ntmps41
 go_wp2_with fail
 refine(HD.out _).mono ?_
 rintro e w1 ⟨r,rfl,hf⟩
 have zJ:=hf.own;obtain⟨RA,rc,rfl,_⟩:=zJ.form;have HF:=Hh hf.2;clear hf Iv;go_wp2_with (at_builtin;refine zh ?_)
 refine fW rfl (.tmp 6) (.tmp 7) rfl w.heap.size _ _ rfl zJ s rfl (by have:=(yZ (3:Int).toNat (n:Int).toNat).2;have:=HN.out.2;omega) HF.out.size fun v' w2 ui hg2=>?_
 have zD:=HF.out.grown hg2 HF.out.size (fun q hq=>(zJ.lt q hq).1)
 have E:Hid (zV (3:Int).toNat (n:Int).toNat++s.data.toList=tm s.data.toList):=by
  rw[Hid,tm,← HN.out.1,Array.length_toList];rfl
 rw[E.out]at ui;clear zJ hg2;go_wp2_with fail
 go_ret
 exact⟨_,rfl,ui,zD⟩
theorem uX (l:List UInt8):(yL l).length≤l.length+9:=by
 have:=(yZ 2 l.length).2;rw[yL,List.length_append]
 omega
theorem pm (l:List UInt8):(tm l).length≤l.length+9:=by
 have:=(yZ 3 l.length).2;rw[tm,List.length_append]
 omega
def lM:List UInt8:=[83,105,103,110,97,116,117,114,101,49]
def lJ:List UInt8:=[69,110,99,114,121,112,116,48]
def qY (id th cred ext mac:List UInt8):List UInt8:=zV 4 4++[tm lM,yL id,yL (yL th++cred++ext),yL mac].flatten
def vL (th:List UInt8):List UInt8:=zV 4 3++[tm lJ,yL [],yL th].flatten
def yI (suite:Int):Nat:=if suite=0 then 8 else if suite=1 then 16 else 0
def nS (n:Int):Bool:=decide (0≤n)&&decide (n≤1048576)
def tz (label:Int):Int:=if nS label=false∨nS (label+1)=false then 1 else 0
def tD (prk:List UInt8) (label:Int) (th:List UInt8):List UInt8:=Uw prk label.toNat th 16
def ivM (prk:List UInt8) (label:Int) (th:List UInt8):List UInt8:=Uw prk (label.toNat+1) th 13
def vC (suite:Int) (prk:List UInt8) (label:Int) (th plain:List UInt8):Int×List UInt8 :=
 if yI suite=0 then(31,[])
 else if 600<plain.length∨600<th.length then(8,[])
 else if tz label≠0 then(1,[])
 else(0,yL (tj (tD prk label th) (ivM prk label th) (vL th) plain (yI suite)))
def ue (suite:Int) (prk:List UInt8) (label:Int) (th m:List UInt8):Int×List UInt8 :=
 if yI suite=0 then(31,[])
 else if 619<m.length∨600<th.length then(8,[])
 else match xz m with
  | .error q=>((q:Int),[])
  | .ok x=>if x.kind≠2 then(4,[]) else if tz label≠0 then(1,[]) else wG (tD prk label th) (ivM prk label th) (vL th) x.bytes (yI suite)
theorem qy (prk:List UInt8) (label:Int) (th:List UInt8):(tD prk label th).length=16:=Zb ..
theorem lE (prk:List UInt8) (label:Int) (th:List UInt8):(ivM prk label th).length=13:=Zb ..
theorem ZN (th:List UInt8):(vL th).length≤th.length+60:=by
 have h1:=(yZ 4 3).2;have h2:=pm lJ;have h3:=uX [];have h4:=uX th
 simp only[vL,lJ,List.length_append,List.flatten_cons,List.flatten_nil,List.length_nil,List.length_cons]at *
 omega
theorem jW (id th cred ext mac:List UInt8):(qY id th cred ext mac).length≤id.length+th.length+cred.length+ext.length+mac.length+100:=by
 have h1:=(yZ 4 4).2;have h2:=pm lM;have h3:=uX id;have h4:=uX (yL th++cred++ext);have h5:=uX th;have h6:=uX mac
 simp only[qY,lM,List.length_append,List.flatten_cons,List.flatten_nil,List.length_nil,List.length_cons]at *
 omega
theorem a8 (prk:List UInt8) (label:Int) {th plain:List UInt8}{suite:Int}(h0:yI suite≠0) (hp:plain.length≤600) (ht:th.length≤600) :
  tQ (tD prk label th) (ivM prk label th) (vL th) plain (yI suite)=(0,tj (tD prk label th) (ivM prk label th) (vL th) plain (yI suite)):=by
 have ha:=ZN th
 have hv:yg (tD prk label th).length (ivM prk label th).length (yI suite)=true:=by
  rw[qy,lE];revert h0
  unfold yI
  split
  ·intro _;decide
  split
  ·intro _;decide
  intro h;exact absurd rfl h
 rw[tQ,if_neg (by rw[hv];simp),if_neg (by omega)]
theorem rC (suite:Int):yI suite≤16:=by
 unfold yI
 split
 ·omega
 split <;> omega
theorem ov {label:Int}(h:label<0∨1048576<label+1):tz label=1:=by
 rw[tz,if_pos]
 rcases h with h | h
 ·left;rw[nS,decide_eq_false (by omega),Bool.false_and]
 right;rw[nS,decide_eq_false (show ¬ label+1≤1048576 by omega),Bool.and_false]
theorem dN {label:Int}(h0:0≤label) (h1:label+1≤1048576):tz label=0:=by
 rw[tz,if_neg];rw[nS,nS,decide_eq_true h0,decide_eq_true (show label≤1048576 by omega),decide_eq_true (show 0≤label+1 by omega),decide_eq_true h1]
 simp
def pK (t:List UInt8) (ls:List (List UInt8)):List UInt8:=zV 4 (1+ls.length)++tm t++(ls.map yL).flatten
def kL (t:List UInt8) (ls:List (List UInt8)) (k:Nat):List UInt8:=zV 4 (1+ls.length)++tm t++((ls.take k).map yL).flatten
theorem T5 (t:List UInt8) (ls:List (List UInt8)) {k:Nat}(h:k<ls.length):kL t ls (k+1)=kL t ls k++yL ls[k]:=by
 rw[kL,kL,List.take_succ_eq_append_getElem h,List.map_append,List.flatten_append,← List.append_assoc]
 simp
theorem PX (t:List UInt8) (ls:List (List UInt8)):kL t ls ls.length=pK t ls:=by rw[kL,pK,List.take_length]
theorem T6 (t:List UInt8) (ls:List (List UInt8)):kL t ls 0=zV 4 (1+ls.length)++tm t:=by simp[kL]
theorem Vv:∀ (ls:List (List UInt8)),(∀ x∈ls,x.length≤1099511)→((ls.map yL).flatten).length≤1099520*ls.length
 | [],_=>by simp
 | x::l,h=>by
  have h1:=Vv l fun y hy=>h y (by simp[hy])
  have h2:=h x (by simp);have h3:=uX x
  simp only[List.map_cons,List.flatten_cons,List.length_append,List.length_cons]
  omega
theorem N4 (t:List UInt8) (ls:List (List UInt8)) (k:Nat) (ht:t.length≤1000) (hl:ls.length≤10) (h:∀ x∈ls,x.length≤1099511):(kL t ls k).length≤10999999:=by
 have h1:=Vv (ls.take k) fun y hy=>h y (List.mem_of_mem_take hy)
 have h2:=(yZ 4 (1+ls.length)).2;have h3:=pm t;rw[List.length_take]at h1;rw[kL,List.length_append,List.length_append]
 omega
theorem bO (id th cred ext mac:List UInt8):qY id th cred ext mac=pK lM [id,[yL th,cred,ext].flatten,mac]:=by
 simp[qY,pK]
theorem dA (th:List UInt8):vL th=pK lJ [[],th]:=by simp[vL,pK]
theorem Q5 {M Z:List UInt8}(h:M.length=Z.length) {i:Nat}(hi:i<M.length):(M.take i++Z.drop i).set i M[i]=M.take (i+1)++Z.drop (i+1):=by
 apply List.ext_getElem?
 intro j
 simp only[List.getElem?_set,List.getElem?_append,List.length_take,List.length_append,List.length_drop,List.getElem?_take,List.getElem?_drop]
 by_cases hj:i=j
 ·subst hj;rw[if_pos rfl,if_pos (by omega),if_pos (by omega),if_pos (by omega),List.getElem?_eq_getElem hi]
 rw[if_neg hj]
 by_cases hl:j<i
 ·rw[if_pos (by omega),if_pos (by omega),if_pos (by omega),if_pos (by omega)]
 rw[if_neg (by omega),if_neg (by omega)];congr 1
 omega
theorem Q4 {M Z:List UInt8}(h:M.length=Z.length) {i:Nat}(hi:i<Z.length):(M.take i++Z.drop i)[i]? = some Z[i]:=by
 rw[List.getElem?_append,if_neg (by rw[List.length_take];omega),List.getElem?_drop,List.length_take,← List.getElem?_eq_getElem];congr 1
 omega
theorem Zn {M Z:List UInt8}(h:M.length=Z.length) (i:Nat):(M.take i++Z.drop i).length=Z.length:=by
 rw[List.length_append,List.length_take,List.length_drop]
 omega
theorem OwnI.lit {w:World}{H:Snap}{l:List Itm}{cs:List Value}(h:ItemsC H cs l) (base:Nat) (hb:base≤w.heap.size) (hm:l.length≤4096) :
  OwnI (w.alloc (.cells cs.toArray 77)) base (.slice (some ⟨w.heap.size,0,none⟩) l.length l.length) H l:=by
 refine⟨cs,h,h.len,.inr ⟨w.heap.size,l.length,cs.toArray,rfl,hb,heap_alloc_new w _,Nat.le_refl _,by simp only[maxLen];omega, ?_, ?_⟩⟩
 ·simpa using h.len
 rw[← h.len];simp
theorem ZY (k:Int) (hk:k=2∨k=3) (bs:List UInt8) (lv:Nat) (hv:k=3→Lib.validD bs=true):Good (.mk k 0 bs []) lv:=by
 refine Good.of ?_ (by simp only[Itm.items];rw[GoodL];trivial) (fun h=>by simp only[Itm.kind]at h;omega)
 rw[tV,if_pos (by rw[vN];simp only[Itm.kind];omega)]
 rcases hk with rfl | rfl
 ·simp[tY,Itm.kind,Itm.n,Itm.items]
 simp[tY,Itm.kind,Itm.n,Itm.items,Itm.bytes,hv rfl]
def sq (out:List Ext) (b:List UInt8):Except Nat (List Ext):=xD (b.length+1) out b
theorem tS (b:List UInt8):tx b=sq [] b:=rfl
section
variable {out:List Ext} {b:List UInt8} {q k c:Nat} {x:Itm}
theorem Pk (h:b.length=0):sq out b=.ok out:=by rw[sq,xD,if_pos h]
theorem Pl (h:b.length≠0) (hp:yz b=.err q):sq out b=.error q:=by rw[sq,xD,if_neg h,hp]
theorem dI (hp:yz b=.ok x k c) (o:List Ext):xD b.length o (b.drop k)=sq o (b.drop k):=by
 obtain⟨k1,_,k2,_⟩:=vO hp;have hd:(b.drop k).length=b.length-k:=List.length_drop
 exact km _ _ _ _ (by omega) (by omega)
theorem TS (h:b.length≠0) (hp:yz b=.ok x k c) (hk:x.kind=2):sq [] b=.error 4:=by
 rw[sq,xD,if_neg h,hp];simp only;rw[if_pos hk];rfl
theorem TT {y:Ext}(h:b.length≠0) (hp:yz b=.ok x k c) (hk:x.kind=2) (hy:y.has=true):sq (out++[y]) b=.error 4:=by
 rw[sq,xD,if_neg h,hp];simp only;rw[if_pos hk];simp[hy]
theorem TU {y:Ext}(h:b.length≠0) (hp:yz b=.ok x k c) (hk:x.kind=2) (hy:y.has=false) (hl:600<x.bytes.length):sq (out++[y]) b=.error 8:=by
 rw[sq,xD,if_neg h,hp];simp only;rw[if_pos hk];simp[hy,hl]
theorem TV {y:Ext}(h:b.length≠0) (hp:yz b=.ok x k c) (hk:x.kind=2) (hy:y.has=false) (hl:¬ 600<x.bytes.length):sq (out++[y]) b=sq (out++[{ y with has:=true,val:=x.bytes }]) (b.drop k):=by
 rw[sq,xD,if_neg h,hp];simp only;rw[if_pos hk];simp only[List.getLast?_append,List.getLast?_singleton,Option.some_or,hy,if_false,List.dropLast_concat,if_neg hl]
 simp only[Bool.false_eq_true,if_false]
 exact dI hp _
theorem TP (h:b.length≠0) (hp:yz b=.ok x k c) (hk:x.kind≠2) (hv:mp x 65535=none):sq out b=.error 4:=by
 rw[sq,xD,if_neg h,hp];simp only;rw[if_neg hk,hv]
theorem TQ {v:Int}(h:b.length≠0) (hp:yz b=.ok x k c) (hk:x.kind≠2) (hv:mp x 65535=some v) (hl:out.length=4):sq out b=.error 8:=by
 rw[sq,xD,if_neg h,hp];simp only;rw[if_neg hk,hv];simp only;rw[if_pos hl]
theorem TR {v:Int}(h:b.length≠0) (hp:yz b=.ok x k c) (hk:x.kind≠2) (hv:mp x 65535=some v) (hl:out.length≠4):sq out b=sq (out++[{ label:=v,has:=false,val:=[] }]) (b.drop k):=by
 rw[sq,xD,if_neg h,hp];simp only;rw[if_neg hk,hv];simp only;rw[if_neg hl]
 exact dI hp _
end
theorem nR (n:Int):1≤(va n).length∧(va n).length≤9:=by
 rw[va];split <;> exact yZ _ _
theorem lI (l:List UInt8):(yL l).length≤l.length+9:=by
 have:=(yZ 2 l.length).2;rw[yL,List.length_append];omega
theorem dJ:∀ (l m:List Ext),vh (l++m)=vh l++vh m
 | [],m=>rfl
 | x::l,m=>by rw[List.cons_append,vh,vh,dJ l m,List.append_assoc]
theorem Wt (l:List Ext) (k:Nat) (hk:k<l.length):vh (l.take (k+1))=vh (l.take k)++Ul l[k]:=by
 rw[List.take_succ_eq_append_getElem hk,dJ,vh,vh,List.append_nil]
theorem NG {x:Ext}(h:x.val.length≤1099511):(Ul x).length≤1099600:=by
 have h1:=(nR x.label).2;have h2:=lI x.val;rw[Ul]
 split <;> simp only[List.length_append,List.length_nil] <;> omega
theorem gJ:∀ (l:List Ext),(∀ x∈l,x.val.length≤1099511)→(vh l).length≤1099600*l.length
 | [],_=>by simp[vh]
 | x::l,h=>by
  have h1:=NG (h x (by simp));have h2:=gJ l (fun y hy=>h y (by simp[hy]));rw[vh,List.length_append,List.length_cons];omega
theorem tK (x:Ext):qb x=true↔(-65535≤x.label∧x.label≤65535∧x.val.length≤600∧(x.has=true∨x.val.length=0)):=by
 simp[qb,and_assoc]
theorem tI (l:List Ext):xa l=true↔(l.length≤4∧∀ x∈l,qb x=true):=by
 simp[xa]
theorem Yl {l:List Ext}{k:Nat}(hk:k<l.length) (h:qb l[k]=false):xa l=false:=by
 cases hg:xa l with
 | false=>rfl
 | true=>have:=((tI l).1 hg).2 _ (List.getElem_mem hk);rw[h]at this;cases this
theorem Yk {l:List Ext}(hl:l.length≤4) (h:∀ j (hj:j<l.length),qb l[j]=true):xa l=true:=by
 rw[tI]
 refine⟨hl,fun x hx=>?_⟩
 obtain⟨j,hj,rfl⟩:=List.mem_iff_getElem.1 hx
 exact h j hj
theorem nQ {l:List Int}{j:Nat}(h:j<l.length):l.getD j 0=l[j]:=by rw[List.getD_eq_getElem?_getD,List.getElem?_eq_getElem h];rfl
theorem kF:∀ l:List Int,twice l=true↔∃ i j,j<i∧i<l.length∧l.getD j 0=l.getD i 0
 | []=>by simp[twice]
 | x::l=>by
  rw[twice,Bool.or_eq_true,kF l,List.contains_iff_mem];constructor
  ·rintro(h | ⟨i,j,h1,h2,h3⟩)
   ·obtain⟨i,hi,e⟩:=List.mem_iff_getElem.1 h
    exact⟨i+1,0,by omega,by simpa using hi,by rw[List.getD_cons_zero,List.getD_cons_succ,nQ hi,e]⟩
   exact⟨i+1,j+1,by omega,by simpa using h2,by rw[List.getD_cons_succ,List.getD_cons_succ];exact h3⟩
  rintro⟨i,j,h1,h2,h3⟩
  obtain⟨i,rfl⟩:∃ i',i=i'+1:=⟨i-1,by omega⟩
  have hi:i<l.length:=by simpa using h2
  cases j with
  | zero=>left;rw[List.getD_cons_zero,List.getD_cons_succ,nQ hi]at h3;rw[h3];exact List.getElem_mem hi
  | succ j=>right;exact⟨i,j,by omega,hi,by rwa [List.getD_cons_succ,List.getD_cons_succ]at h3⟩
theorem aC {l:List Int}(h:∀ i j,j<i→i<l.length→l.getD j 0≠l.getD i 0):twice l=false:=by
 cases ht:twice l with
 | false=>rfl
 | true=>obtain⟨i,j,h1,h2,h3⟩:=(kF l).1 ht;exact absurd h3 (h i j h1 h2)
theorem dv {l:List Int}{i j:Nat}(h1:j<i) (h2:i<l.length) (h3:l.getD j 0=l.getD i 0):twice l=true:=(kF l).2 ⟨i,j,h1,h2,h3⟩
theorem PV {l:List Int}{p:Int→Bool}:l.all p=true↔∀ j,j<l.length→p (l.getD j 0)=true:=by
 rw[List.all_eq_true];constructor
 ·intro h j hj;rw[nQ hj];exact h _ (List.getElem_mem hj)
 intro h x hx
 obtain⟨j,hj,rfl⟩:=List.mem_iff_getElem.1 hx;rw[← nQ hj];exact h j hj
theorem qt (l:List Int):xf l=true↔(1≤l.length∧l.length≤8∧(∀ j,j<l.length→0≤l.getD j 0∧l.getD j 0≤65535)∧twice l=false):=by
 rw[xf,Bool.and_eq_true,Bool.and_eq_true,Bool.and_eq_true,PV]
 simp only[decide_eq_true_eq,Bool.not_eq_true',Bool.and_eq_true,and_assoc]
theorem ta {l:List Int}(h:¬ (1≤l.length∧l.length≤8∧(∀ j,j<l.length→0≤l.getD j 0∧l.getD j 0≤65535)∧twice l=false)):xf l=false:=by
 cases hg:xf l with
 | false=>rfl
 | true=>exact absurd ((qt l).1 hg) h
theorem Za:∀ (l:List Int),(ob l).length≤9*l.length
 | []=>by simp[ob]
 | x::l=>by
  have h1:=(nR x).2;have h2:=Za l;rw[ob,List.length_append,List.length_cons];omega
theorem fj:∀ (l:List Int),(l.map va).flatten=ob l
 | []=>rfl
 | x::l=>by rw[List.map_cons,List.flatten_cons,fj l,ob]
theorem kA:∀ (l m:List Itm),vj (l++m)=(match vj l with | none=>none | some a=>match vj m with | none=>none | some b=>some (a++b))
 | [],m=>by rw[List.nil_append,vj];cases vj m <;> rfl
 | x::l,m=>by
  rw[List.cons_append,vj,vj]
  cases mp x 65535 with
  | none=>rfl
  | some v =>
  simp only
  split
  ·rfl
  rw[kA l m]
  cases vj l with
  | none=>rfl
  | some a=>simp only;cases vj m <;> rfl
structure IsRowI (H:Snap) (A:Option Addr) (c:Nat) (l:List Itm):Prop where
 le:l.length≤c
 max:c≤9223372036854775807
 elems:0<l.length→∃ b off,A=some ⟨b,off,none⟩∧IsElems H b off l
theorem IsRowI.item {H:Snap}{A:Option Addr}{c:Nat}{l:List Itm}(h:IsRowI H A c l) (k:Int) (hk:0≤k∧k≤8) (n:Nat) (hn:n<18446744073709551616):IsItem H none 0 A c (.mk k n [] l):=by
 rw[IsItem]
 exact⟨⟨by omega,by omega,hn,h.le,h.max⟩,IsBytes.nil _,h.elems⟩
theorem pt:∀ a b:List UInt8,Lib.compareBytes a b=0↔a=b
 | [],[]=>by rw[Lib.compareBytes];simp
 | [],y::b=>by rw[Lib.compareBytes];simp
 | x::a,[]=>by rw[Lib.compareBytes];simp
 | x::a,y::b=>by
  rw[Lib.compareBytes]
  by_cases h1:x<y
  ·rw[if_pos h1];have:x≠y:=by rintro rfl;exact UInt8.lt_irrefl x h1
   simp[this]
  rw[if_neg h1]
  by_cases h2:y<x
  ·rw[if_pos h2];have:x≠y:=by rintro rfl;exact UInt8.lt_irrefl x h2
   simp[this]
  rw[if_neg h2];have e:x=y:=UInt8.toNat_inj.1 (by rw[UInt8.lt_iff_toNat_lt]at h1 h2;omega);subst e
  simp[pt a b]
theorem kC (w:World) (A B:Option Addr) (a b:List UInt8) (n m c d:Nat) (hn:n=a.length) (hm:m=b.length) (im:n≤1099511627776) (hmb:m≤1099511627776) (ha:Src w A (a.map zu)) (hb:Src w B (b.map zu)) :
  Calls Tryz.prog 8 #[.slice A n c,.slice B m d] w fun e w'=>e=.returned (.bool (decide (a=b)))∧Below w.heap.size w w':=by
 have CM:=Hh (jS w A B a b n m c d hn hm im hmb ha hb)
 by_cases ie:a=b
 ·have D:Hid (decide (a=b)=true):=decide_eq_true ie;have hz:Lib.compareBytes a b=0:=(pt a b).2 ie;have Iu:n=m:=by rw[hn,hm,ie]
  rw[hz]at CM;clear hz ie ha hb hn hm im hmb;subst Iu;exact jcf
 have D:Hid (decide (a=b)=false):=decide_eq_false ie;have hz:Lib.compareBytes a b≠0:=fun h=>ie ((pt a b).1 h)
 obtain⟨q,hq⟩:∃ q,Lib.compareBytes a b=q:=⟨_,rfl⟩
 rw[hq]at CM hz;have z0:(q==0)=false:=by simpa using hz
 have z1:(q=0)=False:=eq_false hz;clear hz hq ie ha hb hn hm im hmb;exact jcf
def ConnSaid (w:World) (l:List UInt8) (e:Ending) (w':World):Prop :=
 match zC l with
 | .error q=>e=.returned (.tuple #[.slice none 0 0,.int .i64 0,.int .i64 (q:Int)])∧Below w.heap.size w w'
 | .ok (c,k)=>∃ r,e=.returned (.tuple #[r,.int .i64 (k:Int),.int .i64 0])∧Fresh w c r w'
theorem ConnSaid.err {w w':World}{l:List UInt8}{e:Ending}{q:Nat}(h:zC l=.error q) (he:e=.returned (.tuple #[.slice none 0 0,.int .i64 0,.int .i64 (q:Int)])) (hb:Below w.heap.size w w'):ConnSaid w l e w':=by
 rw[ConnSaid,h];exact⟨he,hb⟩
theorem ConnSaid.ok {w w':World}{l:List UInt8}{e:Ending}{c:List UInt8}{k:Nat}{r:Value}(h:zC l=.ok (c,k)) (he:e=.returned (.tuple #[r,.int .i64 (k:Int),.int .i64 0])) (hf:Fresh w c r w'):ConnSaid w l e w':=by
 rw[ConnSaid,h];exact⟨r,he,hf⟩
theorem Src.at0 {w:World}{A:Option Addr}{x:UInt8}{t:List UInt8}(h:Src w A ((x::t).map zu)):∃ b off,A=some ⟨b,off,none⟩∧∀ j (hj:j<(x::t).length),w.cell? ⟨b,off+j,none⟩=some (zu (x::t)[j]):=by
 obtain⟨b,off,e,hc⟩:=h (by simp)
 exact⟨b,off,e,fun j hj=>hc j _ (by rw[List.getElem?_map,List.getElem?_eq_getElem hj];rfl)⟩
theorem rY {w:World}{b off n:Nat}{l:List UInt8}(h:∀ j (hj:j<l.length),w.cell? ⟨b,off+j,none⟩=some (zu l[j])) (k:Nat) (B:Option Addr) (hB:n≠0→B=some ⟨b,off+k,none⟩) (hk:k+n≤l.length):Src w B (((l.drop k).take n).map zu):=fun xp=>by
 have h0:n≠0:=by
  intro h0
  subst h0
  simp at xp
 refine⟨b,off+k,hB h0,fun j v hj=>?_⟩
 rw[List.getElem?_map]at hj;obtain⟨u,hu,rfl⟩:=Option.map_eq_some_iff.1 hj;rw[List.getElem?_take]at hu
 split at hu
 ·rename_i hjn
  rw[List.getElem?_drop]at hu;obtain⟨h1,h2⟩:=List.getElem?_eq_some_iff.1 hu;rw[Nat.add_assoc,h (k+j) h1,h2]
 cases hu
theorem Xd {A:Option Addr}{n c:Nat}{l:List UInt8}(hn:n=l.length) (hl:l.length≤1099511627000) (w:World) (hs:Src w A (l.map zu)) :
  Calls Tryz.prog 59 #[.slice A n c] w fun e w'=>∃ r,e=.returned r∧Fresh w (oZ l) r w':=by
 by_cases h1:l.length=1
 ·obtain⟨x,rfl⟩:=RE h1;obtain⟨b,off,rfl,hc⟩:=Src.at0 hs;have c0:=hc 0 (by simp)
  simp only[Nat.add_zero,List.getElem_cons_zero]at c0
  subst hn
  simp only[List.length_cons,List.length_nil,Nat.zero_add]
  have ST:=Hh (vB (A:=some ⟨b,off,none⟩) (c:=c) (l:=[x]) rfl (by simp) w hs)
  cases hx:uA x with
  | true =>
   have SH:Hid (∀ w1,Calls Tryz.prog 101 #[.int .u8 (x.toNat:Int)] w1 fun e w'=>e=.returned (.bool true)∧w'=w1):=by rw[← hx];exact fun w1=>tJ x w1
   have E:Hid (oZ [x]=[x]):=by rw[Hid,oZ,hx];rfl
   clear hx hc hs ST hl h1;go_enter Tryz.func59,Tryz.ntmps59
   go_wp2_with fail
   refine(SH.out _).mono ?_
   rintro e w1 ⟨rfl,rfl⟩
   go_wp2_with fail
   go_ret
   refine⟨_,rfl, ?_⟩
   rw[E.out]
   exact Fresh.lit _ _ _ 1 rfl (by simp) rfl
  | false =>
  have SH:Hid (∀ w1,Calls Tryz.prog 101 #[.int .u8 (x.toNat:Int)] w1 fun e w'=>e=.returned (.bool false)∧w'=w1):=by rw[← hx];exact fun w1=>tJ x w1
  have E:Hid (oZ [x]=yL [x]):=by rw[Hid,oZ,hx];rfl
  clear hx hc hs hl h1;go_enter Tryz.func59,Tryz.ntmps59
  go_wp2_with fail
  refine(SH.out _).mono ?_
  rintro e w1 ⟨rfl,rfl⟩
  exact jeQ
 have ST:=Hh (vB (A:=A) (c:=c) hn hl w hs)
 have E:Hid (oZ l=yL l):=by
  rw[Hid]
  match l,h1 with
  | [],_=>rfl
  | _::_::_,_=>rfl
 have hz:((n:Int)==1)=false:=by simp;omega
 have oN:((n:Int)=1)=False:=eq_false (by omega);clear hs hl h1 hn;go_enter Tryz.func59,Tryz.ntmps59
 exact jeQ
theorem ix {A:Option Addr}{n c:Nat}{l:List UInt8}(hn:n=l.length) (hl:l.length≤1099511627000) (hc:n≤c) (SF:c≤9223372036854775807) (w:World) (hs:Src w A (l.map zu)) :
  Calls Tryz.prog 114 #[.slice A n c] w (ConnSaid w l):=by
 cases l with
 | nil =>
  subst hn
  simp only[List.length_nil]
  go_enter Tryz.func114,Tryz.ntmps114
  go_wp2_with fail
  go_ret3
  exact ConnSaid.err (q:=2) rfl rfl (Below.refl _ _)
 | cons x t =>
 obtain⟨b,off,rfl,y7⟩:=Src.at0 hs;have c0:=y7 0 (by simp)
 simp only[Nat.add_zero,List.getElem_cons_zero]at c0
 have wg:(0:Int)<(n:Int):=by rw[hn,List.length_cons];omega
 have lx:=x.toNat_lt;have n0:((n:Int)==0)=false:=by simp;omega
 have n0':((n:Int)=0)=False:=eq_false (by omega);have px:=Hh y7;have HN:=Hh (And.intro hn (And.intro hl (And.intro hc SF)));clear y7 hn hl hc SF hs
 cases hx:uA x with
 | true =>
  have SH:Hid (∀ w1,Calls Tryz.prog 101 #[.int .u8 (x.toNat:Int)] w1 fun e w'=>e=.returned (.bool true)∧w'=w1):=by rw[← hx];exact fun w1=>tJ x w1
  have E:Hid (zC (x::t)=.ok ([x],1)):=by rw[Hid,zC,hx];rfl
  clear hx;go_enter Tryz.func114,Tryz.ntmps114
  go_wp2_with fail
  refine(SH.out _).mono ?_
  rintro e w1 ⟨rfl,rfl⟩
  go_wp2_with fail
  go_ret3
  exact ConnSaid.ok E.out rfl (Fresh.lit _ _ _ 1 rfl (by simp) rfl)
 | false =>
 have SH:Hid (∀ w1,Calls Tryz.prog 101 #[.int .u8 (x.toNat:Int)] w1 fun e w'=>e=.returned (.bool false)∧w'=w1):=by rw[← hx];exact fun w1=>tJ x w1
 have E0:Hid (zC (x::t)=if x.toNat<64∨88<x.toNat then .error 4 else if 7<x.toNat-64 then .error 8 else if(x::t).length<1+(x.toNat-64) then .error 2
   else if x.toNat-64=1∧uA ((x::t).getD 1 0) then .error 4 else .ok (t.take (x.toNat-64),1+(x.toNat-64))):=by rw[Hid,zC,hx];rfl
 clear hx
 by_cases h1:x.toNat<64
 ·have z1:(x.toNat:Int)<64:=by omega
  have E:Hid (zC (x::t)=.error 4):=by rw[Hid,E0.out,if_pos (.inl h1)]
  exact ja2
 have z1:¬ (x.toNat:Int)<64:=by omega
 by_cases h2:88<x.toNat
 ·have z2:(88:Int)<(x.toNat:Int):=by omega
  have E:Hid (zC (x::t)=.error 4):=by rw[Hid,E0.out,if_pos (.inr h2)]
  exact ja2
 have z2:¬ (88:Int)<(x.toNat:Int):=by omega
 obtain⟨y,hy⟩:∃ y,x.toNat-64=y:=⟨_,rfl⟩
 have ey:IntKind.i64.wrap ((x.toNat:Int)-64)=(y:Int):=by rw[IntWalk.i64_in _ (by omega)];omega
 have hyl:(y:Int)≤24:=by omega
 have ey2:(x.toNat:Int)-64=(y:Int):=by omega
 have E1:Hid (zC (x::t)=if 7<y then .error 8 else if(x::t).length<1+y then .error 2
   else if y=1∧uA ((x::t).getD 1 0) then .error 4 else .ok (t.take y,1+y)):=by rw[Hid,E0.out,if_neg (by omega),hy]
 clear hy h1 h2 E0
 by_cases h3:7<y
 ·have z3:(7:Int)<(y:Int):=by omega
  have E:Hid (zC (x::t)=.error 8):=by rw[Hid,E1.out,if_pos h3]
  exact ja2
 have z3:¬ (7:Int)<(y:Int):=by omega
 by_cases h4:n<1+y
 ·have z4:(n:Int)<1+(y:Int):=by omega
  have E:Hid (zC (x::t)=.error 2):=by rw[Hid,E1.out,if_neg h3,if_pos (by have:=HN.out.1;omega)]
  exact ja2
 have z4:¬ (n:Int)<1+(y:Int):=by omega
 have E2:Hid (zC (x::t)=if y=1∧uA ((x::t).getD 1 0) then .error 4 else .ok (t.take y,1+y)):=by rw[Hid,E1.out,if_neg h3,if_neg (by have:=HN.out.1;omega)]
 clear E1 h3;have ez:(1:Int)≤1+(y:Int):=by omega
 have iC:1+(y:Int)≤(c:Int):=by have:=HN.out.2.2.1;omega
 have se:(1:Int)≤(c:Int):=by omega
 have JN:=Hh (fun(w0:World) (B:Option Addr) (k:Nat) (hk:k=y) (hw:Below w.heap.size w w0) (hB:y≠0→B=some ⟨b,off+1,none⟩) =>
  gA (A:=some ⟨w0.heap.size,0,none⟩) (n:=1) (c:=1) (ls:=[t.take y]) rfl (by simp) (by simp;omega) (w0.alloc (.cells #[.slice B k (c-1)] 22)) (fun _=>⟨w0.heap.size,0,rfl,fun j hj=>by
   obtain rfl:j=0:=by simpa using hj
   refine⟨B,c-1, ?_, ?_⟩
   ·rw[cell_of_row _ w0.heap.size 0 #[.slice B k (c-1)] 22 (0,0) (heap_alloc_new w0 _)];have:(t.take y).length=k:=by rw[List.length_take,hk];have:=HN.out.1;simp at this;omega
    simp[this]
   have h:=rY (w:=w) (n:=y) px.out 1 B hB (by have:=HN.out.1;omega)
   exact(h.below hw).alloc _⟩))
 have fin:Hid (∀ (w0:World) (B:Option Addr) (cc:Nat),cc=c-1→Below w.heap.size w w0→(y≠0→B=some ⟨b,off+1,none⟩)→Calls Tryz.prog 123 #[.slice (some ⟨w0.heap.size,0,none⟩) 1 1] (w0.alloc (.cells #[.slice B y cc] 22)) fun e w'=>∃ r,e=.returned r∧Fresh (w0.alloc (.cells #[.slice B y cc] 22)) (t.take y) r w'):=fun w0 B cc hcc hw hB=>by
  subst hcc;have:=JN.out w0 B y rfl hw hB
  simpa using this
 clear JN
 by_cases h5:y=1
 ·have uu:=HN.out.1
  obtain⟨x2,t2,rfl⟩:∃ x2 t2,t=x2::t2:=by
   cases t with
   | nil=>simp at uu;omega
   | cons x2 t2=>exact⟨x2,t2,rfl⟩
  have c1:=px.out 1 (by simp)
  simp only[List.getElem_cons_succ,List.getElem_cons_zero]at c1
  have lx2:=x2.toNat_lt;have qf:(1:Int)<(n:Int):=by simp at uu;omega
  have g1:(x::x2::t2).getD 1 0=x2:=rfl;rw[g1]at E2;subst h5;clear uu g1
  cases oM:uA x2 with
  | true =>
   have SH2:Hid (∀ w1,Calls Tryz.prog 101 #[.int .u8 (x2.toNat:Int)] w1 fun e w'=>e=.returned (.bool true)∧w'=w1):=by rw[← oM];exact fun w1=>tJ x2 w1
   have E:Hid (zC (x::x2::t2)=.error 4):=by rw[Hid,E2.out,if_pos ⟨rfl,oM⟩]
   clear oM E2;go_enter Tryz.func114,Tryz.ntmps114
   go_wp2_with fail
   refine(SH.out _).mono ?_
   rintro e w1 ⟨rfl,rfl⟩
   go_wp2_with fail
   refine(SH2.out _).mono ?_
   exact jeD
  | false =>
  have SH2:Hid (∀ w1,Calls Tryz.prog 101 #[.int .u8 (x2.toNat:Int)] w1 fun e w'=>e=.returned (.bool false)∧w'=w1):=by rw[← oM];exact fun w1=>tJ x2 w1
  have E:Hid (zC (x::x2::t2)=.ok ((x2::t2).take 1,2)):=by rw[Hid,E2.out,if_neg (by rw[oM];simp)]
  clear oM E2;go_enter Tryz.func114,Tryz.ntmps114
  go_wp2_with fail
  refine(SH.out _).mono ?_
  rintro e w1 ⟨rfl,rfl⟩
  go_wp2_with fail
  refine(SH2.out _).mono ?_
  rintro e w1 ⟨rfl,rfl⟩
  go_wp2_with fail
  refine(fin.out _ _ _ rfl (Below.refl _ _) (fun _=>rfl)).mono ?_
  rintro e w2 ⟨r,rfl,hf⟩
  go_wp2_with fail
  go_ret3
  exact ConnSaid.ok E.out rfl (hf.step (zX _ _))
 have z5:((y:Int)==1)=false:=by simp;omega
 have z5':((y:Int)=1)=False:=eq_false (by omega);have E:Hid (zC (x::t)=.ok (t.take y,1+y)):=by rw[Hid,E2.out,if_neg (fun h=>h5 h.1)]
 clear E2 h5;go_enter Tryz.func114,Tryz.ntmps114
 go_wp2_with fail
 refine(SH.out _).mono ?_
 rintro e w1 ⟨rfl,rfl⟩
 go_wp2_with fail
 all_goals first | refine(fin.out _ (some ⟨b,off+1,none⟩) _ rfl (Below.refl _ _) (fun _=>rfl)).mono ?_ | refine(fin.out _ (some ⟨b,off,none⟩) 0 (by omega) (Below.refl _ _) (fun h=>absurd (show y=0 by omega) h)).mono ?_
 all_goals
  rintro e w2 ⟨r,rfl,hf⟩
  go_wp2_with fail
  go_ret3
  exact ConnSaid.ok E.out (by simp) (hf.step (zX _ _))
section
variable {w w' w'':World} {H H' H'':Snap} {g:Nat}
theorem GrowsBut.refl (hH:Holds w H) (g:Nat):GrowsBut w H w H g:=⟨yN w _,Snap.le.refl _,hH,fun _ _ h=>.inl h⟩
theorem GrowsBut.trans (h:GrowsBut w H w' H' g) (k:GrowsBut w' H' w'' H'' g):GrowsBut w H w'' H'' g :=
 ⟨zG h.grown k.grown (.inl rfl),h.le.trans k.le,k.holds,fun b o hb=>by
  rcases k.fresh b o hb with h1 | h1
  ·exact h.fresh b o h1
  exact .inr (Nat.le_trans h.grown.size h1)⟩
theorem Grows.but (h:Grows w H w' H') (g:Nat):GrowsBut w H w' H' g:=⟨vW h.below _,h.le,h.holds,h.fresh⟩
theorem GrowsBut.hid (h:GrowsBut w H w' H' g) {k:Nat}(hk:H k=.none) (hl:k<w.heap.size):H' k=.none:=by
 cases hH:H' k with
 | none=>rfl
 | some o =>
 rcases h.fresh k o hH with hx | hx
 ·rw[hk]at hx;cases hx
 omega
structure DeckIn (w:World) (g:Nat) (H:Snap):Prop where
 deck:Bc w g H
 holds:Holds w H
 apart:H g=.none
structure Dealt (w:World) (H:Snap) (w':World) (H':Snap) (g:Nat):Prop where
 grows:GrowsBut w H w' H' g
 deck:DeckIn w' g H'
end
def dbl (n:Nat):Nat:=if n=0 then 0 else(1023+n.log2)*4503599627370496+(n*2 ^ (52-n.log2)-4503599627370496)
theorem lm:∀ n:Fin 1024,floatOfInt .f64 ((n.val:Nat):Int)=dbl n.val:=by decide +kernel
theorem Mz:∀ n:Fin 1024,floatBits .add .f64 (dbl n.val) (dbl 1024)=some (dbl (n.val+1024)):=by decide +kernel
theorem Tq {s e m:Nat}(hs:s≤1) (he:1≤e) (Dq:e≤2046) (hm:m<4503599627370496) :
  floatBits .mul .f64 4607182418800017408 (s*9223372036854775808+e*4503599627370496+m)=some (s*9223372036854775808+e*4503599627370496+m):=by
 have e1:=jhx;obtain⟨e2,e3,e4⟩:=jfD;have e5:Ieee.double.fractionBits=52:=rfl;have r1:Ieee.double.read 4607182418800017408=.number false 4503599627370496 (-52):=by decide +kernel
 obtain⟨x,hx⟩:∃ x,s*9223372036854775808+e*4503599627370496+m=x:=⟨_,rfl⟩
 have r2:Ieee.double.read x=.number (s%2==1) (4503599627370496+m) (-1074+((e-1:Nat):Int)):=by
  unfold Ieee.Format.read
  rw[e1,e2,e3,e4];have a1:x/9223372036854775808=s:=by omega
  have a2:x%9223372036854775808=e*4503599627370496+m:=by omega
  simp only[a1,a2]
  rw[if_neg (by omega),if_pos (by omega)];congr 1
  ·omega
  have:(e*4503599627370496+m)/4503599627370496=e:=by omega
  rw[this]
 rw[hx];show((Ieee.double.read 4607182418800017408).product (Ieee.double.read x)).map Ieee.double.write=some x
 rw[r1,r2]
 simp only[Ieee.Datum.product,Option.map_some,Ieee.Format.write,Bool.false_bne]
 congr 1
 obtain⟨M,hM⟩:∃ M,4503599627370496+m=M:=⟨_,rfl⟩
 have hM1:4503599627370496≤M:=by omega
 have hM2:M<9007199254740992:=by omega
 have hl:(4503599627370496*M).log2=104:=by
  refine iS ?_ ?_
  ·have:(2:Nat) ^ 104=4503599627370496*4503599627370496:=by decide
   rw[this];exact Nat.mul_le_mul_left _ hM1
  have:(2:Nat) ^ (104+1)=4503599627370496*9007199254740992:=by decide
  rw[this];exact Nat.mul_lt_mul_of_pos_left hM2 (by omega)
 rw[hM]
 unfold Ieee.Format.nearest
 rw[if_neg (by intro h;rcases Nat.mul_eq_zero.1 h with h | h <;> omega),e2,e3,e4,e5,hl];have p1:max (-52+(-1074+((e-1:Nat):Int))+((104:Nat):Int)-((52:Nat):Int)) (-1074) = -1074+((e-1:Nat):Int):=by omega
 rw[p1];have p2:(-52+(-1074+((e-1:Nat):Int))-(-1074+((e-1:Nat):Int))).toNat=0:=by omega
 have p3:(-1074+((e-1:Nat):Int)-(-52+(-1074+((e-1:Nat):Int)))).toNat=52:=by omega
 have p4:(-1074+((e-1:Nat):Int) - -1074).toNat=e-1:=by omega
 simp only[p2,p3,p4,Nat.shiftLeft_zero]
 have hq:4503599627370496*M=M*2 ^ 52:=by rw[Nat.mul_comm]
 rw[hq,nE _ M 52 (by rw[← hq,hl];omega)];clear p1 p2 p3 p4 hl hq r1 r2 e1 e2 e3 e4 e5;obtain⟨r,hr⟩:∃ r,min ((e-1)*4503599627370496+M) 9218868437227405312=r:=⟨_,rfl⟩
 have jG:r=(e-1)*4503599627370496+M:=by
  rw[← hr]
  exact Nat.min_eq_left (by omega)
 obtain⟨k,rfl⟩:∃ k,e=k+1:=⟨e-1,by omega⟩
 rw[hr,bt s r hs,jG,← hx,← hM,Nat.add_sub_cancel,Nat.succ_mul]
 simp only[Nat.add_assoc]
end Go.Proofs.YtkmlnjociijpgaaGreatDoor
