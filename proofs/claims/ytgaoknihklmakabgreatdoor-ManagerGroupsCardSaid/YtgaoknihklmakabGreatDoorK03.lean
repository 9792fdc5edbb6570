/- squeezed. Reading data items, third part: wh -/
import Derived.Test.YtgaoknihklmakabGreatDoorK02
import Derived.Laws.IdiomStrings
import Derived.Laws.Externs
import Derived.Laws.FloatArith
import Derived.Shelf.Unicode.ValidAny
import Derived.Deep.QuietTactic
set_option linter.unusedVariables false
set_option linter.unusedSimpArgs false
set_option maxRecDepth 100000
set_option maxHeartbeats 8000000
namespace Go.Proofs.YtgaoknihklmakabGreatDoor
open Go.RowKit
theorem ys{P:Prop}(h:P:=by
 clear hk;go_enter Tryz.func58,Tryz.ntmps58
 go_wp2_with fail
 refine(D.out _).mono ?_
 rintro e w1 ⟨r,rfl,hf⟩
 have y8:=hB.below hf.2;have xR:=uo.trans (hf.2.mono uo.size);have c3:=y8.cell 3 rfl;have mQ:=hf.own.more uo.size;obtain⟨RA,rc,rfl,_⟩:=mQ.form;clear hf;go_wp2_with fail
 go_loopw [3,69] (fun v3 v69 wr=>∃ (k:Nat) (VA:Option Addr) (vc vn:Nat) (l:List UInt8),k≤x.items.length∧v69=.int .i64 k∧v3=.slice VA vn vc∧OwnB wr w.heap.size (.slice VA vn vc) l∧vn=l.length∧(zf x=l++zG (x.items.drop k))∧Below w.heap.size w wr) (fun _ v69 _=>x.items.length-(intOf v69).toNat)
 case atStart=>exact⟨0,_,_,_,_,Nat.zero_le _,rfl,rfl,mQ,rfl,by rw[E.out];rfl,xR⟩
 case round =>
 obtain⟨k,VA,vc,vn,l,tF,rfl,rfl,vY,iB,un,ws⟩:=hrel;have HV:=Hh iB;have HE:=Hh un;clear iB un
 by_cases zB:k<x.items.length
 ·have vv:Holds wr H:=hH.below ws (Nat.le_refl _);obtain⟨ib,io,pf,un⟩:=HX.out.items (by omega);obtain⟨eba,ebc,eia,eic,q0,q1,q2,q3,rx⟩:=un.get k zB;subst pf;have p0:=vv.cell q0;have p1:=vv.cell q1;have p2:=vv.cell q2;have p3:=vv.cell q3;have pt:zG (x.items.drop k)=zf x.items[k]++zG (x.items.drop (k+1)):=by rw[List.drop_eq_getElem_cons zB,zG]
  have oE:l.length+(zf x.items[k]).length≤1099511627776:=by
   have h1:=X6.out;rw[← List.length_append,← E.out,HE.out,pt]at h1
   simp only[List.length_append]at h1
   omega
  have HF:Hid (zf x=(l++zf x.items[k])++zG (x.items.drop (k+1))):=by rw[Hid,HE.out,pt,List.append_assoc]
  have IHC:=ih x.items[k] (ui x k zB) H _ _ eba _ ebc eia _ eic (wr.alloc (.cells #[.int .i64 x.items[k].kind,.int .u64 x.items[k].n,.slice eba x.items[k].bytes.length ebc,.slice eia x.items[k].items.length eic] 83)) (lv+1)
   (HG.out.get _ (List.getElem_mem zB)) (by omega) rx.arg (vv.alloc _)
  have IHH:=Hh IHC;have sX:=ws.alloc ws.size (zU x.items[k] eba ebc eia eic);have X9:=vY.alloc (zU x.items[k] eba ebc eia eic);clear pt q0 q1 q2 q3 IHC vY;go_wp2_with fail
  refine IHH.out.mono ?_
  rintro e w6 ⟨r6,rfl,py⟩
  obtain⟨SA,sc,rfl,_⟩:=py.own.form;have pv:=X9.below py.2;have sm:=sX.trans (py.2.mono sX.size);have jS:=oE;clear oE;go_wp2_with (at_builtin;refine yq ?_)
  unfold z8
  obtain rfl:=HV.out
  refine zW rfl (.tmp 73) (.tmp 75) rfl w.heap.size _ _ rfl pv SA _ sc (zf x.items[k]) rfl rfl py.own.src jS sm.size fun v' w7 vr yQ hat7=>?_
  obtain⟨VA',vc',rfl,_⟩:=vr.form;have YW:OwnB w7 w.heap.size (.slice VA' (l.length+(zf x.items[k]).length) vc') (l++zf x.items[k]):=by rw[← List.length_append];exact vr
  have uq:=sm.grown yQ sm.size (fun q hq=>(pv.lt q hq).1);clear jS pv vr yQ hat7 py IHH p0 p1 p2 p3 X9 sX sm ws;go_wp2_with fail
  go_roundw
  case rel=>exact⟨k+1,VA',vc',_,_,by omega,by go_num,rfl,YW,by rw[List.length_append],HF.out,uq⟩
  case measure=>simp[intOf];omega
 have WM:k=x.items.length:=by omega
 subst WM;have HZ:Hid (zf x=l):=by rw[Hid,HE.out,List.drop_length,zG,List.append_nil]
 go_wp2_with fail
 go_ret
 obtain rfl:=HV.out
 exact⟨_,rfl,by rw[HZ.out];exact⟨vY,ws⟩⟩):P:=h
theorem jbo{P:Prop}(h:P:=by
 go_wp2_with fail
 refine vo rfl rfl (Blk.new _ _ _) rfl rfl zt rfl ?_
 rw[E.out.1]
 exact⟨_,rfl,Gives.plain hH (zm _ _) (by omega) E.out.2.1 E.out.2.2⟩):P:=h
theorem jbq{P:Prop}(h:P:=by
 intro x hx
 have:0<cnt x:=by cases x;rw[cnt];omega
 omega):P:=h
theorem jbR{P:Prop}(h:P:=by
 refine⟨some ⟨g,0,none⟩,c,none,0,H',by simp[xx,Itm.kind,Itm.n,Itm.bytes,Itm.items],hG, ?_⟩
 rw[IsItem]
 exact⟨⟨by omega,by omega,by omega,Nat.le_refl _,by omega⟩,hi,fun h=>absurd h (by simp)⟩):P:=h
theorem jce{P:Prop}(h:P:=by
 refine⟨H.le,H.pos,by rw[s3,g1,hu],by rw[g5],by omega,fun lv _=>g2 lv, ?_⟩
 cases y
 rw[Nums]
 simp only[Itm.items]at g4
 subst g4
 exact⟨g3,by rw[NumsL];trivial⟩):P:=h
theorem jcq{P:Prop}(h:P:=by exact main _ x (Nat.le_refl _)):P:=h
theorem jcB{P:Prop}(h:P:=by
 go_wp2_with fail
 refine vo rfl rfl yT rfl rfl zt rfl ?_
 exact⟨_,rfl,HF.out.own (zm _ _) hH zM (Nat.le_refl _) (by simp)⟩):P:=h
theorem jcC{P:Prop}(h:P:=by
 go_wp2_with fail
 refine vo rfl rfl yT rfl rfl zt rfl ?_
 exact⟨_,rfl,Gb.out.own (zm _ _) hH zM (Nat.le_refl _) (by simp)⟩):P:=h
theorem jcH{P:Prop}(h:P:=by
 simp only[Ieee.Datum.isNaN,Bool.false_eq_true,false_iff]
 omega):P:=h
theorem jde{P:Prop}(h:P:=by
 rw[y9,if_neg (by simp[yx,Itm.kind])]
 simp[vl,Itm.kind,Itm.bytes,Itm.items,Itm.n,xF]
 omega):P:=h
theorem jfz{P:Prop}(h:P:=by have hB:=Blk.new w 83 #[.int .i64 x.kind,.int .u64 x.n,.slice ba x.bytes.length bc,.slice ia x.items.length ic];have uo:=zm w (zU x ba bc ia ic);exact And.intro hB uo):P:=h
theorem jhN{P:Prop}(h:P:=by have tE:=hx.bounds;exact tE):P:=h
theorem jhQ{P:Prop}(h:P:=by have hB:=(Blk.new w 83 #[.int .i64 0,.int .u64 0,.slice none 0 0,.slice none 0 0]).below hf.2;exact hB):P:=h
theorem jhS{P:Prop}(h:P:=by have HN:=Hh tE.2.2.1;exact HN):P:=h
theorem jhT{P:Prop}(h:P:=by have hB:=(Blk.new w 83 #[.int .i64 0,.int .u64 0,.slice none 0 0,.slice none 0 0]).below hb;exact hB):P:=h
structure Read (d:Nat) (b:List UInt8) (c:Nat) (x:Itm) (k c':Nat):Prop where
 le:k≤b.length
 pos:0<k
 enc:zf x=b.take k
 cnt:c'=c+cnt x
 lim:c'≤256
 good:∀ lv,lv+d=8→Good x lv
 nums:Nums x
structure ReadL (d:Nat) (b:List UInt8) (c:Nat) (l:List Itm) (n k c':Nat):Prop where
 le:k≤b.length
 enc:zG l=b.take k
 cnt:c'=c+xM l
 lim:c'≤256
 good:∀ lv,lv+d=8→GoodL l lv
 nums:NumsL l
 len:l.length=n
theorem us {α:Type}(b:List α) (k k':Nat):b.take (k+k')=b.take k++(b.drop k).take k':=List.take_add
theorem aB {d:Nat}{p:List UInt8→Nat→PR}(hp:∀ b c x k c',p b c=.ok x k c'→Read d b c x k c') :
  ∀ (n:Nat) (b:List UInt8) (c:Nat) (l:List Itm) (k c':Nat),c≤256→uw p n b c=.ok l k c'→ReadL d b c l n k c'
 | 0,b,c,l,k,c',hc,h=>by
  rw[uw]at h;injection h with h1 h2 h3
  subst h1 h2 h3
  exact⟨by omega,by simp[zG],by simp[xM],hc,fun lv _=>by rw[GoodL];trivial,by rw[NumsL];trivial,rfl⟩
 | n+1,b,c,l,k,c',hc,h=>by
  rw[uw]at h
  split at h
  ·cases h
  rename_i x k1 c1 h1
  split at h
  ·cases h
  rename_i l1 k2 c2 h2
  injection h with e1 e2 e3
  subst e1 e2 e3;have r1:=hp _ _ _ _ _ h1;have r2:=aB hp n _ _ _ _ _ r1.lim h2;have hl:=r2.le;rw[List.length_drop]at hl;have:=r1.le
  refine⟨by omega, ?_, ?_,r2.lim,fun lv hlv=>?_, ?_,by rw[List.length_cons,r2.len]⟩
  ·rw[zG,r1.enc,r2.enc,us]
  ·rw[xM,r2.cnt,r1.cnt];omega
  ·rw[GoodL];exact⟨r1.good lv hlv,r2.good lv hlv⟩
  rw[NumsL];exact⟨r1.nums,r2.nums⟩
def Q6 (last:Option (List UInt8)) (l:List Itm):Prop :=
 xE l=true∧∀ q,last=some q→∀ x t,l=x::t→Lib.compareBytes q (zf x)<0
theorem lF:∀ a b:List UInt8,¬ Lib.compareBytes a b=0→¬ Lib.compareBytes a b<0→Lib.compareBytes b a<0
 | [],[],h,_=>absurd rfl h
 | [],_::_,_,h=>absurd (by show(-1:Int)<0;decide) h
 | _::_,[],_,_=>by show(-1:Int)<0;decide
 | x::a,y::b,h,k=>by
  rw[Lib.compareBytes]at h k⊢
  split at h
  ·rename_i h1
   rw[if_pos h1]at k
   exact absurd (by decide) k
  rename_i h1
  rw[if_neg h1]at k
  split at h
  ·rename_i h2
   rw[if_pos h2];decide
  rename_i h2
  rw[if_neg h2]at k;rw[if_neg h2,if_neg h1]
  exact lF a b h k
theorem VQ {last:Option (List UInt8)}{key:List UInt8}(h:rn last key=none):∀ q,last=some q→Lib.compareBytes q key<0:=by
 intro q hq
 subst hq;rw[rn]at h
 split at h
 ·cases h
 split at h
 ·cases h
 rename_i h1 h2
 exact lF _ _ h1 h2
theorem aX {d:Nat}{p:List UInt8→Nat→PR}(hp:∀ b c x k c',p b c=.ok x k c'→Read d b c x k c') :
  ∀ (n:Nat) (b:List UInt8) (c:Nat) (last:Option (List UInt8)) (l:List Itm) (k c':Nat),c≤256→vX p n b c last=.ok l k c'→ReadL d b c l (2*n) k c'∧Q6 last l
 | 0,b,c,last,l,k,c',hc,h=>by
  rw[vX]at h;injection h with h1 h2 h3
  subst h1 h2 h3
  exact⟨⟨by omega,by simp[zG],by simp[xM],hc,fun lv _=>by rw[GoodL];trivial,by rw[NumsL];trivial,rfl⟩,rfl,fun _ _ _ _ h=>by cases h⟩
 | n+1,b,c,last,l,k,c',hc,h=>by
  rw[vX]at h
  split at h
  ·cases h
  rename_i x k1 c1 h1
  split at h
  ·cases h
  rename_i hk
  split at h
  ·cases h
  rename_i y k2 c2 h2
  split at h
  ·cases h
  rename_i l1 k3 c3 h3
  injection h with e1 e2 e3
  subst e1 e2 e3;have r1:=hp _ _ _ _ _ h1;have r2:=hp _ _ _ _ _ h2;obtain⟨r3,a1,a2⟩:=aX hp n _ _ _ _ _ _ r2.lim h3;have lT:=r2.le;have Yv:=r3.le;rw[List.length_drop]at lT Yv;have:=r1.le
  refine⟨⟨by omega, ?_, ?_,r3.lim,fun lv hlv=>?_, ?_,by rw[List.length_cons,List.length_cons,r3.len];omega⟩, ?_,fun q hq x' t ht=>?_⟩
  ·rw[zG,zG,r1.enc,r2.enc,r3.enc,← List.append_assoc,← us,← us]
  ·rw[xM,xM,r3.cnt,r2.cnt,r1.cnt];omega
  ·rw[GoodL,GoodL];exact⟨r1.good lv hlv,r2.good lv hlv,r3.good lv hlv⟩
  ·rw[NumsL,NumsL];exact⟨r1.nums,r2.nums,r3.nums⟩
  ·cases l1 with
   | nil=>rfl
   | cons z l2 =>
   rw[xE,a1];have:=a2 _ rfl z l2 rfl;rw[← r1.enc]at this
   simp[this]
  injection ht with ht _
  subst ht;rw[r1.enc]
  exact VQ hk q hq
theorem dZ {x:Itm}(h:∀ lv,y9 x lv=true) (hi:x.items=[]) (h5:x.kind≠5):∀ lv,Good x lv:=fun lv =>
 Good.of (h lv) (by rw[hi,GoodL];trivial) (fun h=>absurd h h5)
theorem p8:∀ (d:Nat) (b:List UInt8) (c:Nat) (x:Itm) (k c':Nat),zZ d b c=.ok x k c'→Read d b c x k c':=by
 intro d
 induction d using Nat.strongRecOn with
 | _ d ih =>
 intro b c x k c' h
 rw[zZ.eq_def]at h
 simp only at h
 split at h
 ·cases h
 rename_i hc
 split at h
 ·cases h
 rename_i f n k1 hh
 have H:=wP hh;have xN:=H.low;have hf:=H.f_lt
 split at h
 ·rename_i h1
  injection h with e1 e2 e3
  subst e1 e2 e3;have hk:f/32=0∨f/32=1:=by omega
  refine⟨H.le,H.pos, ?_,by simp[cnt,xM],by omega,fun lv _=>dZ (fun lv=>?_) rfl (by simp only[Itm.kind];omega) lv, ?_⟩
  ·rw[← H.enc (by omega),xu,if_neg (by simp only[Itm.kind];omega),if_neg (by simp only[Itm.kind];omega)]
   have e:numP (.mk (f/32:Nat) n [] [])=n:=by
    rw[numP,if_neg (by simp only[Itm.kind];omega),if_neg (by simp only[Itm.kind];omega),if_neg (by simp only[Itm.kind];omega)];rfl
   rw[e,show(Itm.mk (f/32:Nat) n [] []).kind.toNat=f/32 from rfl]
   simp[Itm.bytes,Itm.items,zG]
  ·rw[y9]
   rcases hk with hk | hk <;> simp[yx,zH,Itm.kind,Itm.bytes,Itm.items,hk]
  rw[Nums];exact⟨H.n_lt,by rw[NumsL];trivial⟩
 rename_i h1
 split at h
 ·rename_i h3
  split at h
  ·cases h
  rename_i h4
  split at h
  ·cases h
  rename_i h5
  injection h with e1 e2 e3
  subst e1 e2 e3;have hk:f/32=2∨f/32=3:=by omega
  have xO:=H.le;have xF:((b.drop k1).take n).length=n:=by rw[List.length_take,List.length_drop];omega
  have hn:=H.n_lt;have tm:=H.pos
  refine⟨by omega,by omega, ?_,by simp[cnt,xM],by omega,fun lv _=>dZ (fun lv=>?_) rfl (by simp only[Itm.kind];omega) lv, ?_⟩
  ·rw[us,← H.enc (by omega),xu,if_neg (by simp only[Itm.kind];omega),if_neg (by simp only[Itm.kind];omega)]
   have e:numP (.mk (f/32:Nat) 0 ((b.drop k1).take n) [])=n:=by
    rw[numP,if_pos (by simp only[Itm.kind];omega)]
    exact xF
   rw[e,show(Itm.mk (f/32:Nat) 0 ((b.drop k1).take n) []).kind.toNat=f/32 from rfl]
   simp[Itm.bytes,Itm.items,zG]
  ·rw[y9]
   rcases hk with hk | hk
   ·simp[yx,zH,Itm.kind,Itm.bytes,Itm.items,Itm.n,hk]
   have:Lib.validD ((b.drop k1).take n)=true:=by
    cases h:Lib.validD ((b.drop k1).take n) with
    | true=>rfl
    | false=>exact absurd ⟨hk,h⟩ h5
   simp[yx,zH,Itm.kind,Itm.bytes,Itm.items,Itm.n,hk,this]
  rw[Nums];exact⟨by omega,by rw[NumsL];trivial⟩
 rename_i h3
 split at h
 ·rename_i h7
  split at h
  ·cases h
  rename_i y hs
  injection h with e1 e2 e3
  subst e1 e2 e3;have hu:u8 f=u8 (7*32+f%32):=by rw[show 7*32+f%32=f by omega]
  rcases Nat.lt_or_ge (f%32) 24 with hl | hl
  ·obtain⟨s1,s2,s3⟩:=H.small hl;obtain⟨g1,g2,g3,g4,g5⟩:=qn (low:=f%32) (t:=[]) (by omega) (fun _=>⟨s1,rfl⟩) (fun h=>by omega) hs
   exact jce
  obtain⟨s1,t,s2,s3,s4⟩:=H.wide hl;obtain⟨g1,g2,g3,g4,g5⟩:=qn (low:=f%32) (t:=t) (by omega) (fun h=>by omega) (fun _=>⟨s2,s4⟩) hs
  exact jce
 rename_i h7
 cases d with
 | zero=>cases h
 | succ d =>
 simp only at h
 have hd:d<d+1:=by omega
 have tm:=H.pos
 split at h
 ·rename_i h6
  split at h
  ·cases h
  rename_i y k2 c2 hy
  injection h with e1 e2 e3
  subst e1 e2 e3;have r:=ih d hd _ _ _ _ _ hy;have xO:=H.le;have hl:=r.le;rw[List.length_drop]at hl
  refine⟨by omega,by omega, ?_, ?_,r.lim,fun lv hlv=>Good.of ?_ ?_ (fun h=>by simp only[Itm.kind]at h;omega), ?_⟩
  ·rw[us,← H.enc (by omega),xu,if_neg (by simp only[Itm.kind];omega),if_neg (by simp only[Itm.kind];omega),h6];have e:numP (.mk 6 n [] [y])=n:=by simp[numP,Itm.kind,Itm.n]
   rw[e,← r.enc]
   simp[Itm.kind,Itm.bytes,Itm.items,zG]
  ·rw[cnt,xM,xM,r.cnt];omega
  ·rw[y9,if_neg (by simp[yx,Itm.kind])]
   simp[vl,Itm.kind,Itm.bytes,Itm.items,Itm.n]
   omega
  ·simp only[Itm.items]
   rw[GoodL,GoodL]
   exact⟨r.good _ (by omega),trivial⟩
  rw[Nums,NumsL,NumsL]
  exact⟨H.n_lt,r.nums,trivial⟩
 rename_i h6
 split at h
 ·rename_i h5
  split at h
  ·cases h
  rename_i l k2 c2 hy
  injection h with e1 e2 e3
  subst e1 e2 e3;obtain⟨r,asc,_⟩:=aX (ih d hd) _ _ _ _ _ _ _ (by omega) hy;have xO:=H.le;have hl:=r.le;have xF:=r.len;rw[List.length_drop]at hl
  refine⟨by omega,by omega, ?_, ?_,r.lim,fun lv hlv=>Good.of ?_ ?_ (fun _=>asc), ?_⟩
  ·rw[us,← H.enc (by omega),xu,if_neg (by simp only[Itm.kind];omega),if_neg (by simp only[Itm.kind];omega),h5];have e:numP (.mk 5 0 [] l)=n:=by simp[numP,Itm.kind,Itm.n,Itm.items,xF]
   rw[e,← r.enc]
   simp[Itm.kind,Itm.bytes,Itm.items]
  ·rw[cnt,r.cnt];omega
  ·exact jde
  ·exact r.good _ (by omega)
  rw[Nums]
  exact⟨by omega,r.nums⟩
 rename_i h5
 split at h
 ·cases h
 rename_i l k2 c2 hy
 injection h with e1 e2 e3
 subst e1 e2 e3;have h4:f/32=4:=by omega
 have r:=aB (ih d hd) _ _ _ _ _ _ (by omega) hy;have xO:=H.le;have hl:=r.le;have xF:=r.len;rw[List.length_drop]at hl
 refine⟨by omega,by omega, ?_, ?_,r.lim,fun lv hlv=>Good.of ?_ ?_ (fun h=>by simp only[Itm.kind]at h;omega), ?_⟩
 ·rw[us,← H.enc (by omega),xu,if_neg (by simp only[Itm.kind];omega),if_neg (by simp only[Itm.kind];omega),h4];have e:numP (.mk 4 0 [] l)=n:=by simp[numP,Itm.kind,Itm.n,Itm.items,xF]
  rw[e,← r.enc]
  simp[Itm.kind,Itm.bytes,Itm.items]
 ·rw[cnt,r.cnt];omega
 ·exact jde
 ·exact r.good _ (by omega)
 rw[Nums]
 exact⟨by omega,r.nums⟩
def WV (p:List UInt8→Nat→PR):Prop:=∀ b c x k c',p b c=.ok x k c'→c<c'∧c'≤256
theorem QC (x:Itm):0<cnt x:=by rw[oA];omega
theorem vA (d:Nat):WV (zZ d):=fun b c x k c' h=>by
 have r:=p8 d b c x k c' h;have:=QC x
 exact⟨by rw[r.cnt];omega,r.lim⟩
theorem Wg {p:List UInt8→Nat→PR}(hp:WV p):∀ (m n:Nat) (b:List UInt8) (c:Nat) (last:Option (List UInt8)),256<c+m→256<c+n→c≤256→vX p m b c last=vX p n b c last
 | 0,n,b,c,last,h1,_,h3=>by omega
 | m+1,0,b,c,last,_,h2,h3=>by omega
 | m+1,n+1,b,c,last,h1,h2,h3=>by
  rw[vX,vX]
  cases h:p b c with
  | err e=>rfl
  | ok x k c1 =>
  have a1:=hp _ _ _ _ _ h
  simp only
  cases rn last (b.take k) with
  | some e=>rfl
  | none =>
  simp only
  cases h':p (b.drop k) c1 with
  | err e=>rfl
  | ok y k2 c2 =>
  have a2:=hp _ _ _ _ _ h'
  simp only
  rw[Wg hp m n (b.drop (k+k2)) c2 (some (b.take k)) (by omega) (by omega) a2.2]
def tM (b:List UInt8):PR:=zZ 8 (b.take 4096) 0
theorem Zf {b:List UInt8}{x:Itm}{k c:Nat}(h:tM b=.ok x k c):k≤b.length∧k≤4096∧0<k∧zf x=b.take k∧Good x 0∧Nums x∧cnt x≤256:=by
 have r:=p8 _ _ _ _ _ _ h;have hl:=r.le;rw[List.length_take]at hl;have h1:=r.cnt;have h2:=r.lim
 refine⟨by omega,by omega,r.pos, ?_,r.good 0 rfl,r.nums,by omega⟩
 rw[r.enc,List.take_take,show min k 4096=k by omega]
def xh (b:List UInt8):Except Nat Itm :=
 if 4096<b.length then .error 8 else match tM b with
 | .err e=>.error e
 | .ok x k _=>if k<b.length then .error 9 else .ok x
structure Ext where
 label:Int
 has:Bool
 val:List UInt8
def Le (x:Itm) (lim:Nat):Option Int :=
 if x.kind=0∧x.n≤lim then some (x.n:Int) else if x.kind=1∧x.n<lim then some (-1-(x.n:Int)) else none
def Ld (n:Int):List UInt8:=if n<0 then zF 1 (-1-n).toNat else zF 0 n.toNat
def cP:Nat→List Ext→List UInt8→Except Nat (List Ext)
 | 0,out,_=>.ok out
 | n+1,out,b =>
 if b.length=0 then .ok out
 else match tM b with
  | .err e=>.error e
  | .ok x k _ =>
  if x.kind=2 then
   (match out.getLast? with
   | none=>.error 4
   | some l =>
   if l.has then .error 4 else if 600<x.bytes.length then .error 8
   else cP n (out.dropLast++[{ l with has:=true,val:=x.bytes }]) (b.drop k))
  else match Le x 65535 with
   | none=>.error 4
   | some v=>if out.length=4 then .error 8 else cP n (out++[{ label:=v,has:=false,val:=[] }]) (b.drop k)
def Nb (b:List UInt8):Except Nat (List Ext):=cP (b.length+1) [] b
def TY (c:UInt8):Bool:=decide (c.toNat<24)||decide (32≤c.toNat)&&decide (c.toNat<56)
def Ve (b:List UInt8):Except Nat (List UInt8×Nat) :=
 match b with
 | []=>.error 2
 | x::t =>
 if TY x then .ok ([x],1)
 else if x.toNat<64∨88<x.toNat then .error 4
 else if 7<x.toNat-64 then .error 8
 else if b.length<1+(x.toNat-64) then .error 2
 else if x.toNat-64=1∧TY (b.getD 1 0) then .error 4
 else .ok (t.take (x.toNat-64),1+(x.toNat-64))
def twice:List Int→Bool
 | []=>false
 | x::l=>l.contains x||twice l
structure First where
 method:Int
 suites:List Int
 gx:List UInt8
 conn:List UInt8
 ext:List Ext
def PY:List Itm→Option (List Int)
 | []=>some []
 | x::l=>match Le x 65535 with
  | none=>none
  | some v=>if v<0 then none else match PY l with
   | none=>none
   | some t=>some (v::t)
def Qj (x:Itm):Except Nat (List Int) :=
 if x.kind=0 then(if x.n≤65535 then .ok [(x.n:Int)] else .error 4)
 else if x.kind≠4∨x.items.length<2 then .error 4
 else match PY x.items with
  | none=>.error 4
  | some l=>if twice l then .error 7 else if 8<l.length then .error 8 else .ok l
theorem tx (n:Int) (lv:Nat):Good (zr n) lv:=by
 rw[zr]
 split <;> (rw[Good];refine⟨?_,by rw[GoodL];trivial,by intro h;omega⟩;simp[y9,yx,zH,vl,Itm.kind,Itm.bytes,Itm.items,Itm.n])
theorem xG (n:Int):zf (zr n)=Ld n:=by
 rw[Wa (tx n 0) (by rw[zr];split <;> simp[Itm.kind]),zr,Ld]
 split <;> rfl
theorem IsItem.plain (H:Snap) (k:Int) (n:Nat) (hk : -9223372036854775808≤k∧k≤9223372036854775807) (hn:n<18446744073709551616):IsItem H none 0 none 0 (.mk k n [] []):=by
 rw[IsItem]
 exact⟨⟨hk.1,hk.2,hn,Nat.le_refl _,by omega⟩,IsBytes.nil H,fun h=>absurd h (by simp)⟩
theorem Gives.plain {w w':World}{H:Snap}{k n:Int}{m:Nat}(hH:Holds w H) (hb:Below w.heap.size w w') (hk : -9223372036854775808≤k∧k≤9223372036854775807) (hm:m<18446744073709551616) (hn:n=(m:Int)) :
  Gives w H (.mk k m [] []) (.agg #[.int .i64 k,.int .u64 n,.slice none 0 0,.slice none 0 0]) w':=by
 subst hn
 exact⟨none,0,none,0,H,rfl,Grows.of_below hH hb,IsItem.plain H k m hk hm⟩
theorem Fresh.gives {w w1:World}{H:Snap}{l:List UInt8}{r:Value}{k:Int}(hH:Holds w H) (h:Fresh w l r w1) (hk : -9223372036854775808≤k∧k≤9223372036854775807) :
  Gives w H (.mk k 0 l []) (.agg #[.int .i64 k,.int .u64 0,r,.slice none 0 0]) w1:=by
 obtain⟨A,c,rfl,_⟩:=h.own.form;obtain⟨H',hl,hh,hf,_,hi⟩:=h.own.snap (hH.below h.2 (Nat.le_refl _)) (fun g hg=>hH.none_of_ge (h.own.lt g (by cases A <;> simp_all [Value.ownBlock])).1)
 refine⟨A,c,none,0,H',rfl,⟨h.2,hl,hh,fun b o hb=>?_⟩, ?_⟩
 ·exact jcL
 rw[IsItem]
 exact⟨⟨hk.1,hk.2,by omega,Nat.le_refl _,by omega⟩,hi,fun h=>absurd h (by simp)⟩
theorem Grows.own {w wA w1 w':World}{H H':Snap}{g:Nat}(hA:Below w.heap.size w wA) (hH:Holds w H) (h:Grows wA H w1 H') (hg:w1.grownBy w' (some g)) (h1:w.heap.size≤g) (h2:g<wA.heap.size):Grows w H w' H' :=
 ⟨(hA.trans (h.below.mono hA.size)).grown hg (Nat.le_trans hA.size h.below.size) (by rintro k ⟨⟩;exact h1),h.le,h.holds.grown hg (by rintro k ⟨⟩;exact h.none (hH.none_of_ge h1) h2),fun b o hb=>by
  rcases h.fresh b o hb with h | h
  ·exact .inl h
  exact .inr (Nat.le_trans hA.size h)⟩
theorem Gives.own {w wA w1 w':World}{H:Snap}{x:Itm}{v:Value}{g:Nat}(hA:Below w.heap.size w wA) (hH:Holds w H) (h:Gives wA H x v w1) (hg:w1.grownBy w' (some g)) (h1:w.heap.size≤g) (h2:g<wA.heap.size):Gives w H x v w':=by
 obtain⟨ba,bc,ia,ic,H',e,hG,hi⟩:=h
 exact⟨ba,bc,ia,ic,H',e,hG.own hA hH hg h1 h2,hi⟩
theorem rU (a b c d:Value) (ha:a.oneCell'=true) (hb:b.oneCell'=true) (hc:c.oneCell'=true) (hd:d.oneCell'=true):(#[a,b,c,d]:Array Value).all (·.oneCell')=true:=by simp[ha,hb,hc,hd]
theorem Uz (n:Nat) (hn:n<18446744073709551616) {H:Snap}(w:World) (hH:Holds w H) :
  Calls Tryz.prog 85 #[.int .u64 n] w fun e w'=>∃ v,e=.returned v∧Gives w H (.mk 0 n [] []) v w':=by
 have HN:=Hh hn;clear hn;go_enter Tryz.func85,Tryz.ntmps85
 go_wp2_with fail
 refine vo rfl rfl (Blk.new _ _ _) rfl rfl zt rfl ?_
 exact⟨_,rfl,Gives.plain hH (zm _ _) (by omega) HN.out rfl⟩
theorem xK (n:Int) (h1 : -9223372036854775808≤n) (h2:n≤9223372036854775807) {H:Snap}(w:World) (hH:Holds w H) :
  Calls Tryz.prog 66 #[.int .i64 n] w fun e w'=>∃ v,e=.returned v∧Gives w H (zr n) v w':=by
 by_cases h0:n<0
 ·have E:Hid (zr n=.mk 1 (-1-n).toNat [] []∧(-1-n).toNat<18446744073709551616∧-1-n=((-1-n).toNat:Int)):=⟨by rw[zr,if_pos h0],by omega,by omega⟩
  have K1:IntKind.u64.wrap (-1-n) = -1-n:=by rw[IntKind.wrap_u64];omega
  have K0:IntKind.i64.wrap (-1-n) = -1-n:=IntWalk.i64_in _ (by omega);clear h1 h2;go_enter Tryz.func66,Tryz.ntmps66
  exact jbo
 have E:Hid (zr n=.mk 0 n.toNat [] []∧n.toNat<18446744073709551616∧n=(n.toNat:Int)):=⟨by rw[zr,if_neg h0],by omega,by omega⟩
 have K1:IntKind.u64.wrap n=n:=by rw[IntKind.wrap_u64];omega
 have U:=Hh (Uz n.toNat E.out.2.1 (w.alloc (.cells #[.int .i64 0,.int .u64 0,.slice none 0 0,.slice none 0 0] 83)) (hH.alloc _));rw[← E.out.2.2]at U;have hn:=Int.not_lt.1 h0;clear h1 h2 h0;go_enter Tryz.func66,Tryz.ntmps66
 go_wp2_with fail
 refine U.out.mono ?_
 rintro e w1 ⟨v,rfl,hg⟩
 have HG:=Hh hg;obtain⟨ba,bc,ia,ic,H',rfl,hg,hi⟩:=hg;have hB:=(Blk.new w 83 #[.int .i64 0,.int .u64 0,.slice none 0 0,.slice none 0 0]).below hg.below;go_wp2_with (with_reducible refine zx ?_)
 refine zv rfl _ _ _ rfl rfl _ _ rfl rfl _ _ hB zt rfl (rU _ _ _ _ rfl rfl rfl rfl) fun w2 yT zM=>?_
 go_wp2_with fail
 refine vo rfl rfl yT rfl rfl zt rfl ?_
 rw[E.out.1]
 exact⟨_,rfl,HG.out.own (zm _ _) hH zM (Nat.le_refl _) (by simp)⟩
theorem XT {A:Option Addr}{n c:Nat}{l:List UInt8}(hn:n=l.length) (hl:l.length≤1099511627776) {H:Snap}(w:World) (hs:Src w A (l.map zT)) (hH:Holds w H) :
  Calls Tryz.prog 128 #[.slice A n c] w fun e w'=>∃ v,e=.returned v∧Gives w H (.mk 2 0 l []) v w':=by
 have C:=Hh (cK (w.alloc (.cells #[.int .i64 0,.int .u64 0,.slice none 0 0,.slice none 0 0] 83)) A l n c hn hl (hs.alloc _));clear hn;go_enter Tryz.func128,Tryz.ntmps128
 go_wp2_with fail
 refine C.out.mono ?_
 rintro e w1 ⟨r,rfl,hf⟩
 have hB:=jhQ;have HF:=Hh (hf.gives (k:=2) (hH.alloc (.cells #[.int .i64 0,.int .u64 0,.slice none 0 0,.slice none 0 0] 83)) (by omega));obtain⟨A',c',rfl,_⟩:=hf.own.form;go_wp2_with (with_reducible refine zx ?_)
 refine zv rfl _ _ _ rfl rfl _ _ rfl rfl _ _ hB zt rfl (rU _ _ _ _ rfl rfl rfl rfl) fun w2 yT zM=>?_
 exact jcB
theorem jA {w:World}{H:Snap}(hH:Holds w H) (s:ByteArray) (hl:s.size≤1099511627776) :
  ∃ g c w',(convert 9 22 (.string s)).run Tryz.prog w=.ok (.slice (some ⟨g,0,none⟩) s.size c) w'∧Below w.heap.size w w'∧∃ H',Grows w H w' H'∧IsBytes H' (some ⟨g,0,none⟩) c s.data.toList:=by
 refine⟨_,_,_,run_bytes_of_string (P:=Tryz.prog) w 9 22 5 s Tryz.underlying9 Tryz.underlying22 Tryz.underlying5, ?_, ?_⟩
 ·exact(Below.refl _ _).drew.alloc (Nat.le_refl _) _
 obtain⟨o,ho⟩:∃ o,o=Obj.cells (bytesRow s (grownCap w s.size 0 5)) 5 ((bytesRow s (grownCap w s.size 0 5)).size,(bytesRow s (grownCap w s.size 0 5)).size+1):=⟨_,rfl⟩
 rw[← ho];have h0:H w.heap.size=none:=hH.none_of_ge (Nat.le_refl _)
 refine⟨H.with w.heap.size o,⟨(Below.refl _ _).drew.alloc (Nat.le_refl _) _,Snap.le_with h0,(hH.drew.alloc o).with (heap_alloc_new w.drew o),fun b x hb=>?_⟩, ?_, ?_, ?_⟩
 ·unfold Snap.with at hb
  split at hb
  ·subst b;exact .inr (Nat.le_refl _)
  exact .inl hb
 ·simpa using grownCap_ge w s.size 0 5
 ·have:=grownCap_le_maxLen w s.size 0 5 (by simp only[maxLen];omega)
  simpa [maxLen] using this
 refine fun _=>⟨w.heap.size,0,rfl,fun j v hj=>?_⟩
 have uU:j<s.data.size:=by
  have:=(List.getElem?_eq_some_iff.1 hj).1
  simpa using this
 subst ho
 simp only[Snap.cell?,Snap.with,if_true,Nat.zero_add,Option.isSome,Bool.false_eq_true,if_false]
 rw[bytesRow_at s _ j uU]
 simp at hj
 obtain⟨a,h1,h2⟩:=hj;rw[Array.getElem?_eq_getElem uU]at h1;injection h1 with h1
 rw[h1,← h2]
theorem dN (s:ByteArray) (hl:s.size≤1099511627776) {H:Snap}(w:World) (hH:Holds w H) :
  Calls Tryz.prog 93 #[.string s] w fun e w'=>∃ v,e=.returned v∧Gives w H (.mk 3 0 s.data.toList []) v w':=by
 obtain⟨g,c,w1,hr,hb,H',hG,hi⟩:=jA (hH.alloc (.cells #[.int .i64 0,.int .u64 0,.slice none 0 0,.slice none 0 0] 83)) s hl;have hB:=jhT
 have HI:Gives (w.alloc (.cells #[.int .i64 0,.int .u64 0,.slice none 0 0,.slice none 0 0] 83)) H (.mk 3 0 s.data.toList []) (.agg #[.int .i64 3,.int .u64 0,.slice (some ⟨g,0,none⟩) s.size c,.slice none 0 0]) w1:=by
  exact jbR
 have Gb:=Hh HI;clear hb hi HI;go_enter Tryz.func93,Tryz.ntmps93
 go_wp2_with (with_reducible refine zx ?_)
 refine zv rfl _ _ _ rfl rfl _ _ rfl rfl _ _ hB zt rfl (rU _ _ _ _ rfl rfl rfl rfl) fun w2 yT zM=>?_
 exact jcC
theorem Sx (x:Itm) (hk:4≤x.kind∧x.kind≤6) (ih:∀ y:Itm,cnt y<cnt x→iE y):iE x:=by
 intro H k n ba bl bc ia il ic w lv hg hl hx hH
 obtain⟨rfl,rfl,rfl,rfl,nE⟩:=hx.eqs_;have hx:=nE;have tE:=jhN;have e0:=SR hg hk;rw[e0,List.length_append]at hl;have HL:=Hh hl;have HG:=Hh hg.items;have py:=xH (show vl x lv=true by rcases xV hg.node with ⟨h1,_⟩ | ⟨_,h1⟩;(rw[zP]at h1;omega);exact h1);obtain⟨hB,uo⟩:=jfz;have tL:x.items.length≤9223372036854775807:=by omega
 have HX:=Hh hx;have HN:=jhS;clear hl tE py hg hx
 have three:∃ (q m:Int) (hd:List UInt8) (D:Hid (∀ w1:World,Calls Tryz.prog 76 #[.int .i64 q,.int .u64 m] w1 fun e w'=>∃ r,e=.returned r∧Fresh w1 hd r w')),
   zf x=hd++zG x.items∧((x.kind=4∧q=4∧m=x.items.length)∨(x.kind=5∧q=5∧m=(x.items.length:Int)/2)∨(x.kind=6∧q=6∧m=x.n)):=by
  rcases(by omega:x.kind=4∨x.kind=5∨x.kind=6) with h | h | h
  ·refine⟨4,x.items.length,_,fun w1=>pR 4 _ w1 (by omega) (by omega) (by omega) (by omega), ?_,.inl ⟨h,rfl,rfl⟩⟩
   have:numP x=x.items.length:=by simp[numP,h]
   rw[e0,h,this];rfl
  ·refine⟨5,(x.items.length:Int)/2,_,fun w1=>pR 5 _ w1 (by omega) (by omega) (by omega) (by omega), ?_,.inr (.inl ⟨h,rfl,rfl⟩)⟩
   have:numP x=x.items.length/2:=by simp[numP,h]
   rw[e0,h,this];rfl
  refine⟨6,x.n,_,fun w1=>pR 6 _ w1 (by omega) (by omega) (by omega) (by have:=HN.out;omega), ?_,.inr (.inr ⟨h,rfl,rfl⟩)⟩
  have:numP x=x.n:=by simp[numP,h]
  rw[e0,h,this];rfl
 obtain⟨q,m,hd,D,e1,h3⟩:=three;have E:=Hh e1;have lT:hd.length+(zG x.items).length≤1099511627776:=by rw[← List.length_append,← e1,e0,List.length_append];exact HL.out
 have X6:=Hh lT;clear e0 e1 lT HL hk;have KW:IntKind.u64.wrap (x.items.length:Int)=(x.items.length:Int):=IntWalk.u64_in _ (by omega);have KW2:IntKind.u64.wrap ((x.items.length:Int)/2)=(x.items.length:Int)/2:=IntWalk.u64_in _ (by omega)
 rcases h3 with ⟨hk,rfl,rfl⟩ | ⟨hk,rfl,rfl⟩ | ⟨hk,rfl,rfl⟩
 ·obtain⟨b0,b1,b2,b3,b4,b5,b6,b7,b8⟩:=TM hk;exact ys
 ·obtain⟨b0,b1,b2,b3,b4,b5,b6,b7,b8⟩:=TN hk;exact ys
 obtain⟨b0,b1,b2,b3,b4,b5,b6,b7,b8⟩:=TO hk;exact ys
theorem rP (x:Itm):iE x:=by
 have main:∀ N,∀ x:Itm,cnt x≤N→iE x:=by
  intro N
  induction N with
  | zero =>
   exact jbq
  | succ N ih =>
  intro x hx
  by_cases hk:4≤x.kind∧x.kind≤6
  ·exact Sx x hk fun y hy=>ih y (by omega)
  intro H k n ba bl bc ia il ic w lv hg hl ha hH
  obtain⟨rfl,rfl,rfl,rfl,hi⟩:=ha.eqs_;have WM:=qB hg.node
  rcases(by omega:(x.kind=0∨x.kind=1)∨(x.kind=2∨x.kind=3)∨x.kind=7∨x.kind=8) with h | h | h | h
  ·exact Qb x w lv h hg hi
  ·exact Qc x w lv h hg hl hi hH
  ·exact YC x w lv h hg hi
  exact Vk x w h hi
 exact jcq
theorem jl (n:Nat):isNaN n=true↔n/2 ^ 52%2048=2047∧n%2 ^ 52≠0:=by
 simp[isNaN]
theorem ai (n:Nat):(Ieee.double.read n).isNaN=isNaN n:=by
 rw[Bool.eq_iff_iff,jl];have hs:Ieee.double.signWeight=9223372036854775808:=rfl;have hb:Ieee.double.binade=4503599627370496:=rfl;have hi:Ieee.double.infRung=9218868437227405312:=rfl
 simp only[Nat.reducePow]
 by_cases h1:n%Ieee.double.signWeight<Ieee.double.binade
 ·rw[show Ieee.double.read n=.number _ _ _ from if_pos h1];rw[hs,hb]at h1
  exact jcH
 by_cases h2:n%Ieee.double.signWeight<Ieee.double.infRung
 ·rw[show Ieee.double.read n=.number _ _ _ from(if_neg h1).trans (if_pos h2)];rw[hs,hi]at h2
  exact jcH
 by_cases h3:n%Ieee.double.signWeight=Ieee.double.infRung
 ·rw[show Ieee.double.read n=.infinity _ from(if_neg h1).trans ((if_neg h2).trans (if_pos h3))];rw[hs,hi]at h3
  exact jcH
 rw[show Ieee.double.read n=.nan _ _ from(if_neg h1).trans ((if_neg h2).trans (if_neg h3))];rw[hs,hi]at h2 h3
 simp only[Ieee.Datum.isNaN,true_iff]
 omega
theorem Y2 (d:Ieee.Datum):(d.order d==some .eq) = !d.isNaN:=by
 cases d with
 | nan a b=>rfl
 | infinity s=>cases s <;> rfl
 | number s m i =>
 simp[Ieee.Datum.order,Ieee.Datum.isNaN]
theorem dh (n:Nat):(FloatKind.f64.format.order n n==some .eq) = !isNaN n:=by
 show(Ieee.Datum.order (Ieee.double.read n) (Ieee.double.read n)==some .eq)=_
 rw[Y2,ai]
theorem Vc (n:Nat):(FloatKind.f64.format.order n n != some .eq)=isNaN n:=by
 rw[bne,dh,Bool.not_not]
theorem vF (n:Nat) (w:World):(callFunc 123 #[.int .u64 (n:Int)]).run Tryz.prog w=.ok (.value (.float .f64 n)) w:=by
 rw[run_callFunc_extern Tryz.func123 (by kernel_rfl) (by kernel_rfl) (by kernel_rfl) (e:=Extern.MathFloatBits.float64frombits) (by kernel_rfl)];rfl
theorem yU (n:Nat) (w:World):(callFunc 118 #[.float .f64 n]).run Tryz.prog w=.ok (.value (.int .u64 (n:Int))) w:=by
 rw[run_callFunc_extern Tryz.func118 (by kernel_rfl) (by kernel_rfl) (by kernel_rfl) (e:=Extern.MathFloatBits.float64bits) (by kernel_rfl)];rfl
theorem Zr (n:Nat) (w:World):(callFunc 125 #[.float .f32 n]).run Tryz.prog w=.ok (.value (.int .u32 (n:Int))) w:=by
 rw[run_callFunc_extern Tryz.func125 (by kernel_rfl) (by kernel_rfl) (by kernel_rfl) (e:=Extern.MathFloatBits.float32bits) (by kernel_rfl)];rfl
def SB (H:Snap) (A:Option Addr) (t:ByteArray):Prop:=0<t.size→∃ b off,A=some ⟨b,off,none⟩∧∀ j,j<t.size→H.cell? ⟨b,off+j,none⟩=some (.int .u8 ((t.get! j).toNat:Int))
theorem Q8 (l:List UInt8):(⟨l.toArray⟩:ByteArray).data.toList=l:=by simp
theorem NV (l:List UInt8) (j:Nat) (h:j<l.length):(⟨l.toArray⟩:ByteArray).get! j=l[j]:=by
 show l.toArray[j]! = l[j]
 rw[getElem!_pos l.toArray j (by simpa using h)]
 simp
theorem SB.of {H:Snap}{A:Option Addr}{c:Nat}{l:List UInt8}(h:IsBytes H A c l):SB H A ⟨l.toArray⟩:=fun h0=>by
 have hl:(⟨l.toArray⟩:ByteArray).size=l.length:=by show l.toArray.size=l.length;simp
 rw[hl]at h0;obtain⟨b,off,e,hc⟩:=h.at_ h0
 refine⟨b,off,e,fun j hj=>?_⟩
 rw[hl]at hj;rw[hc j hj,NV l j hj]
theorem sC {H:Snap}{A:Option Addr}{t:ByteArray}(hs:SB H A t) (h8:8≤t.size) (c:Nat) (w:World) (hH:Holds w H) :
  Calls Tryz.prog 115 #[.slice A t.size c] w fun e w'=>e=.returned (.int .u64 ((Lib.leNat [t.get! 0,t.get! 1,t.get! 2,t.get! 3,t.get! 4,t.get! 5,t.get! 6,t.get! 7]:Nat):Int))∧∃ q,w'=w.drewN q:=by
 obtain⟨b,off,rfl,hc⟩:=hs (by omega);have c0:=hH.cell (hc 0 (by omega));have q0:(0:Int)<(t.size:Int):=by omega
 have p0:0<t.size:=by omega
 have c1:=hH.cell (hc 1 (by omega));have q1:(1:Int)<(t.size:Int):=by omega
 have p1:1<t.size:=by omega
 have c2:=hH.cell (hc 2 (by omega));have q2:(2:Int)<(t.size:Int):=by omega
 have p2:2<t.size:=by omega
 have c3:=hH.cell (hc 3 (by omega));have q3:(3:Int)<(t.size:Int):=by omega
 have p3:3<t.size:=by omega
 have c4:=hH.cell (hc 4 (by omega));have q4:(4:Int)<(t.size:Int):=by omega
 have p4:4<t.size:=by omega
 have c5:=hH.cell (hc 5 (by omega));have q5:(5:Int)<(t.size:Int):=by omega
 have p5:5<t.size:=by omega
 have c6:=hH.cell (hc 6 (by omega));have q6:(6:Int)<(t.size:Int):=by omega
 have p6:6<t.size:=by omega
 have c7:=hH.cell (hc 7 (by omega));have q7:(7:Int)<(t.size:Int):=by omega
 have p7:7<t.size:=by omega
 have l0:=(t.get! 0).toNat_lt
 generalize t.get! 0=x0 at *
 have l1:=(t.get! 1).toNat_lt
 generalize t.get! 1=x1 at *
 have l2:=(t.get! 2).toNat_lt
 generalize t.get! 2=x2 at *
 have l3:=(t.get! 3).toNat_lt
 generalize t.get! 3=x3 at *
 have l4:=(t.get! 4).toNat_lt
 generalize t.get! 4=x4 at *
 have l5:=(t.get! 5).toNat_lt
 generalize t.get! 5=x5 at *
 have l6:=(t.get! 6).toNat_lt
 generalize t.get! 6=x6 at *
 have l7:=(t.get! 7).toNat_lt
 generalize t.get! 7=x7 at *
 have hv:((Lib.leNat [x0,x1,x2,x3,x4,x5,x6,x7]:Nat):Int)=(x0.toNat:Int)+(x1.toNat:Int)*256+(x2.toNat:Int)*65536+(x3.toNat:Int)*16777216+(x4.toNat:Int)*4294967296+(x5.toNat:Int)*1099511627776+(x6.toNat:Int)*281474976710656+(x7.toNat:Int)*72057594037927936:=by
  simp only[Lib.leNat]
  push_cast
  omega
 have HV:=Hh hv;clear hv hc hs
 simp only[Nat.add_zero]at c0
 go_enter Tryz.func115,Tryz.ntmps115
 go_upto_region 2 with fail
 refine zj 47 (fun w'=>w'.cell? ⟨b,off,none⟩=some (.int .u8 (x0.toNat:Int))∧w'.cell? ⟨b,off+1,none⟩=some (.int .u8 (x1.toNat:Int))∧w'.cell? ⟨b,off+2,none⟩=some (.int .u8 (x2.toNat:Int))∧w'.cell? ⟨b,off+3,none⟩=some (.int .u8 (x3.toNat:Int))∧w'.cell? ⟨b,off+4,none⟩=some (.int .u8 (x4.toNat:Int))∧w'.cell? ⟨b,off+5,none⟩=some (.int .u8 (x5.toNat:Int))∧w'.cell? ⟨b,off+6,none⟩=some (.int .u8 (x6.toNat:Int))∧w'.cell? ⟨b,off+7,none⟩=some (.int .u8 (x7.toNat:Int))) (by kernel_rfl) (⟨c0,c1,c2,c3,c4,c5,c6,c7⟩) (fun zy=>?_)
 refine TkS 0 rfl zy ?_
 refine TkS 1 rfl zy ?_
 refine TkS 2 rfl zy ?_
 refine TkS 3 rfl zy ?_
 refine TkS 4 rfl zy ?_
 refine TkS 5 rfl zy ?_
 refine TkS 6 rfl zy ?_
 refine TkS 7 rfl zy ?_
 refine TkS 8 rfl zy ?_
 refine TkS 9 rfl zy ?_
 refine TkS 10 rfl zy ?_
 refine TkS 11 rfl zy ?_
 refine TkS 12 rfl zy ?_
 refine TkS 13 rfl zy ?_
 refine TkS 14 rfl zy ?_
 refine TkS 15 rfl zy ?_
 refine TkS 16 rfl zy ?_
 refine TkS 17 rfl zy ?_
 refine TkS 18 rfl zy ?_
 refine TkS 19 rfl zy ?_
 refine TkS 20 rfl zy ?_
 refine TkS 21 rfl zy ?_
 refine TkS 22 rfl zy ?_
 refine TkS 23 rfl zy ?_
 refine TkS 24 rfl zy ?_
 refine TkS 25 rfl zy ?_
 refine TkS 26 rfl zy ?_
 refine TkS 27 rfl zy ?_
 refine TkS 28 rfl zy ?_
 refine TkS 29 rfl zy ?_
 refine TkS 30 rfl zy ?_
 refine TkS 31 rfl zy ?_
 refine TkS 32 rfl zy ?_
 refine TkS 33 rfl zy ?_
 refine TkS 34 rfl zy ?_
 refine TkS 35 rfl zy ?_
 refine TkS 36 rfl zy ?_
 refine TkS 37 rfl zy ?_
 refine TkS 38 rfl zy ?_
 refine TkS 39 rfl zy ?_
 refine TkS 40 rfl zy ?_
 refine TkS 41 rfl zy ?_
 refine TkS 42 rfl zy ?_
 refine TkS 43 rfl zy ?_
 refine TkS 44 rfl zy ?_
 refine TkS 45 rfl zy ?_
 refine TkS 46 rfl zy ?_
 refine Wd ?_
 clear zy;go_wp2_with fail
 go_ret
 refine⟨?_,1,rfl⟩
 simp (disch:=omega) only [u64_wrap_id,u64_or8,u64_or16,u64_or24,u64_or32,u64_or40,u64_or48,u64_or56]
 rw[HV.out];rfl
theorem stI {w:World}{ops:Array Oper}{rest:List Oper}{o:Oper}{a:Act}{Q:Exit→Act→World→Prop}{x y:Operand}{g:Nat}{c0 c1 c2 c3:Value}{t:TypeId}{old:Array Value}(hB:Blk w g t old)
  (h:∀ w',Blk w' g t #[c0,c1,c2,c3]→w.grownBy w' (some g)→wpList Tryz.prog ops Q rest a w')
  (bY:o.guard=none:=by rfl) (ho:o.op=.store 83 x y:=by rfl) (hd:o.dst=none:=by rfl) (hx:a.eval x=.pointer (some ⟨g,0,none⟩):=by rfl) (hy:a.eval y=.agg #[c0,c1,c2,c3]:=by rfl) (hold:(#[c0,c1,c2,c3]:Array Value).size=old.size:=by rfl) (h1:c0.oneCell'=true:=by rfl) (h2:c1.oneCell'=true:=by rfl) (h3:c2.oneCell'=true:=by rfl) (h4:c3.oneCell'=true:=by rfl):wpList Tryz.prog ops Q (o::rest) a w :=
 zv bY _ _ _ ho hd _ _ hx hy _ _ hB zt hold (rU _ _ _ _ h1 h2 h3 h4) h
end Go.Proofs.YtgaoknihklmakabGreatDoor
