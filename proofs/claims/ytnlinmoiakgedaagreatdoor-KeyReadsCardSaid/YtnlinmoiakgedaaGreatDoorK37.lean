/- squeezed. Walks: the program's Build, of pai -/
import Derived.Test.YtnlinmoiakgedaaGreatDoorK36
import Derived.Test.YtnlinmoiakgedaaGreatDoorK31
set_option linter.unusedVariables false
set_option linter.unusedSimpArgs false
set_option maxRecDepth 100000
set_option maxHeartbeats 25600000
namespace Go.Proofs.YtnlinmoiakgedaaGreatDoor
open Go.RowKit
theorem bW {H:Snap}:∀ {l:List Pr}{cs:List Value},RowC gN H cs l→∃ ds:List (PE H),ds.length=l.length∧ds.map (·.key)=l.map (·.1)∧cs=ds.flatMap uP
 | [],cs,h=>⟨[],rfl,rfl,by rw[RowC]at h;exact h⟩
 | x::l,cs,h=>by
  obtain⟨c,rest,rfl,⟨A,cc,ba,bc,ia,ic,ba',bc',ia',ic',rfl,hk,hy,hz⟩,hr⟩:=h;obtain⟨ds,h1,h2,h3⟩:=bW hr
  refine⟨⟨A,cc,x.1,zg x.2.1 ba bc ia ic++zg x.2.2 ba' bc' ia' ic',rfl,by simp[zg,Value.oneCell'],hk⟩::ds,by simp[h1],by simp[h2], ?_⟩
  rw[List.flatMap_cons,← h3];rfl
theorem fY {H:Snap}:∀ (ds:List (PE H)) (t:Nat),t<ds.length*9→(ds.flatMap uP)[t]? = some ((uP ds[t/9]!)[t%9]!)
 | [],t,h=>by simp at h
 | x::ds,t,h=>by
  rw[List.flatMap_cons];have hx:=iq x
  by_cases h9:t<9
  ·rw[List.getElem?_append_left (by omega),Nat.div_eq_of_lt h9,Nat.mod_eq_of_lt h9]
   simp only[List.getElem!_cons_zero]
   rw[List.getElem!_eq_getElem?_getD,List.getElem?_eq_getElem (by omega)];rfl
  ·rw[List.getElem?_append_right (by omega),hx,fY ds (t-9) (by simp only[List.length_cons]at h;omega)];have e1:t/9=(t-9)/9+1:=by omega
   have e2:t%9=(t-9)%9:=by omega
   rw[e1,e2];rfl
theorem dI {H:Snap}{w:World}{base m c:Nat}{A:Option Addr}{l:List Pr}(h:OwnX gN 99 w base (.slice A m c) H l) (h0:0<l.length) :
  ∃ (g:Nat) (d:Array (PE H)),A=some ⟨g,0,none⟩∧base≤g∧g<w.heap.size∧d.size=l.length∧(∀ j (hj:j<l.length),d[j]!.key=l[j].1)∧Go.Sort.HoldsK uP 9 w g 0 d:=by
 obtain⟨cs,q9,h⟩:=h
 rcases h.2 with ⟨hv,hz⟩ | ⟨g,cap,cur,hv,hb,hg,hc,hm,hcz,ht⟩
 ·omega
 ·cases hv
  obtain⟨ds,h1,h2,h3⟩:=bW q9
  refine⟨g,ds.toArray,rfl,hb,(Array.getElem?_eq_some_iff.1 hg).1,by simpa using h1,fun j hj=>?_,fun t ht'=>?_⟩
  ·have e:(ds.map (·.key))[j]? = (l.map (·.1))[j]? :=by rw[h2]
   rw[List.getElem?_map,List.getElem?_map,List.getElem?_eq_getElem hj,List.getElem?_eq_getElem (by omega:j<ds.length)]at e;have e':ds[j].key=l[j].1:=Option.some.inj e;rw[← e',getElem!_pos ds.toArray j (by simpa using (by omega:j<ds.length))]
   simp
  ·rw[Go.Sort.size_flatK,List.size_toArray]at ht';rw[Go.Sort.get_flatK _ _ _ _ (by simpa using ht')];have hf:=fY ds t ht';rw[← h3,← ht,List.getElem?_take]at hf
   split at hf
   ·have e3:(ds.toArray)[t/9]! = ds[t/9]! :=by simp
    refine⟨?_,by simp[World.frozen?,hg]⟩
    rw[Nat.zero_add];have xq:=cell_of_row w g t cur 99 (0,0) hg;rw[xq,e3]
    simpa using hf
   ·cases hf
theorem m0b {w w':World}{p:Addr}{v:Value}(hb:Below w.heap.size w w') (h:w.cell? p=some v):w'.cell? p=some v:=yT h hb
def Xd (w:World) (H:Snap) (ps:List Itm) (e:Ending) (w':World):Prop:=∃ v,e=.returned (.tuple #[v,.int .i64 0])∧Gives w H (.mk 5 0 [] ps) v w'
theorem cQ {H:Snap}(hTab:Tabs H) {A:Option Addr}{c:Nat}{ps:List Itm}(hr:IsRowI H A c ps) (vX:ps.length%2=0) (h4:4≤ps.length) (ta:ps.length≤24) (uA:xX ps=true)
  (vH:∀ x∈ps,yW x=true) (hwh:yW (.mk 5 0 [] ps)=true) (w:World) (hH:Holds w H) :
  Calls Tryz.prog 55 #[.slice A ps.length c] w (Xd w H ps):=by
 have hT:=Blk.new w 26 pt;have hb:=zi w zr;have zQ:H w.heap.size=none:=hH.none_of_ge (Nat.le_refl _);have b1:((ps.length:Int)%2==1)=false:=by rw[beq_eq_false_iff_ne];omega
 have p1:((ps.length:Int)%2=1)=False:=eq_false (by omega);have HR:=Hh hr;have HC:=Hh (And.intro vX (And.intro h4 ta));have HA:=Hh (And.intro uA (And.intro vH hwh));clear vX h4 ta uA vH hwh hr;go_enter Tryz.func55,Tryz.ntmps55
 go_wp2_with fail
 go_loopw [18] (fun v18 wr=>∃ j:Nat,j≤ps.length∧v18=.int .i64 j∧Below w.heap.size w wr∧Blk wr w.heap.size 26 pt) (fun v18 _=>ps.length-(intOf v18).toNat)
 case atStart=>exact⟨0,Nat.zero_le _,rfl,hb,hT⟩
 case round =>
  clear hb hT b1 p1;obtain⟨j,hj,rfl,xS,vf⟩:=hrel
  by_cases yi:j<ps.length
  ·have xT:=hH.below xS (Nat.le_refl _);obtain⟨ib,io,tj,wI⟩:=HR.out.elems (by omega);obtain⟨y1,y2,y3,y4,q0,q1,q2,q3,uU⟩:=wI.get j yi;subst tj;have p0:=xT.cell q0;have p1':=xT.cell q1;have p2:=xT.cell q2;have p3:=xT.cell q3;have QU:=xT.alloc (zW ps[j] y1 y2 y3 y4);have V:=Hh (tN hTab uU.arg _ QU);rw[HA.out.2.1 _ (List.getElem_mem yi)]at V;have wg:=xS.alloc xS.size (zW ps[j] y1 y2 y3 y4);have xD:=vf.alloc (zW ps[j] y1 y2 y3 y4)
   generalize ps[j]'yi=x at *
   clear q0 q1 q2 q3 wI uU xS vf xT QU;go_wp2_with fail
   refine V.out.mono ?_
   rintro e w3 ⟨rfl,tl⟩
   have xM:=xD.below tl;have yR:=wg.trans (tl.mono wg.size);have av:(j:Int)+1≤9223372036854775807:=by have:=HC.out.2.2;omega
   clear xD wg tl;go_wp2_with fail
   go_roundw
   case rel=>exact⟨j+1,by omega,by go_num,yR,xM⟩
   case measure=>simp[intOf];omega
  ·have so:j=ps.length:=by omega
   subst so;clear yi hj;obtain⟨n,hn⟩:∃ n,ps.length=2*n:=⟨ps.length/2,by have:=HC.out.1;omega⟩
   have hq:((ps.length:Int)/2)=(n:Int):=by omega
   have Lw:(ps.length:Int).tdiv 2=(n:Int):=by rw[Int.tdiv_eq_ediv_of_nonneg (by omega)];omega
   have HN:=Hh hn;have dy:n≤12:=by have:=HC.out.2.2;omega
   have hG:=Grows.of_below hH xS;obtain⟨i0,xt,cK,sB,o4⟩:=info_parts k9;clear hn xS;go_wp2_with (at_make;refine ye ?_)
   refine wpList_make_own wr rfl _ _ 97 rfl (w.heap.size+1) 99 i0 _ 9 Tryz.underlying97 xt cK sB .i64 .i64 (n:Int) n rfl rfl rfl (by rw[o4];omega) (by simp only[maxLen];omega) (by have:=vf.lt;omega) fun w4 hown4 hg4=>?_
   have wH:=hG.below_ (yo hg4);have hX:=XM.start (bt:=97) (bv:=.slice none 0 0) wH zQ (vf.grown hg4 (by simp)) (show OwnX gN 99 w4 (w.heap.size+1) (.slice (some ⟨wr.heap.size,0,none⟩) 0 n) H [] from⟨[],RowC.nil _ _,hown4⟩) (fun g hg=>by simp[Value.ownBlock]at hg;subst hg;exact hG.hidden (Nat.le_refl _));obtain⟨B,hB⟩:∃ B,w4.heap.size=B:=⟨_,rfl⟩
   obtain⟨g0,gc⟩:∃ g0,wr.heap.size=g0:=⟨_,rfl⟩
   rw[hB]at hX;rw[gc]at hX⊢;clear hown4 hg4 wH hG vf xt cK sB o4 gc;go_wp2_with (with_reducible refine zx ?_)
   unfold yE
   try rw[hB]
   refine zu rfl _ _ _ rfl rfl B 0 (.slice (some ⟨g0,0,none⟩) 0 n) rfl rfl _ _ hX.box mU (by simp) rfl fun w5 uh sp=>?_
   replace hX:=hX.setBox (by simpa using uh) sp;clear uh sp hB hq Lw;go_wp2_with fail
   go_loopw [7] (fun v7 wx=>∃ (j:Nat) (Hx:Snap) (VA:Option Addr) (m vc:Nat),j≤ps.length∧j%2=0∧v7=.int .i64 (j:Int)∧m=j/2∧XM gN 99 97 26 w H B pt (.slice VA m vc) (.slice VA m vc) (pk (ps.take j)) wx Hx) (fun v7 _=>ps.length-(intOf v7).toNat)
   case atStart=>exact⟨0,H,some ⟨g0,0,none⟩,0,n,Nat.zero_le _,rfl,rfl,rfl,by simpa [pk] using hX⟩
   case round =>
    clear hX;obtain⟨j,Hx,VA,m,vc,hj,Zc,rfl,hm,hX⟩:=hrel;have HJ:=Hh (And.intro Zc hm);clear Zc hm
    by_cases yi:j<ps.length
    ·have qs:j+1<ps.length:=by have:=HJ.out.1;have:=HC.out.1;omega
     have lG:(j:Int)<ps.length:=by omega
     have Yu:(j:Int)+1<ps.length:=by omega
     have av:(j:Int)+2≤9223372036854775807:=by have:=HC.out.2.2;omega
     have QM:IntKind.i64.wrap ((j:Int)+1)=(j:Int)+1:=IntWalk.i64_in _ (by omega);have Rr:(0:Int)≤(j:Int)+1:=by omega
     obtain⟨ib,io,tj,wI⟩:=HR.out.elems (by omega);obtain⟨y1,y2,y3,y4,q0,q1,q2,q3,iW⟩:=wI.get j yi;obtain⟨z1,z2,z3,z4,s0,s1,s2,s3,ji⟩:=wI.get (j+1) qs;subst tj;have HV:=Hh (uW (HA.out.2.1 _ (List.getElem_mem yi)))
     have MZ:Hid (pk (ps.take (j+2))=pk (ps.take j)++[(zd ps[j],ps[j],ps[j+1])]):=by
      obtain⟨i,rfl⟩:∃ i,j=2*i:=⟨j/2,by have:=HJ.out.1;omega⟩
      exact WB ps i qs
     have Wv:Hid ((pk (ps.take j)).length=m):=by rw[Hid,km,List.length_take];have:=HJ.out;omega
     have tw:=hX.grows.le;have q0:=tw.cell q0;have q1:=tw.cell q1;have q2:=tw.cell q2;have q3:=tw.cell q3;have s0:=tw.cell s0;have s1:=tw.cell s1;have s2:=tw.cell s2;have s3:=tw.cell s3;have iW:=iW.mono tw;have ji:=ji.mono tw
     generalize ps[j]'yi=y at *
     generalize ps[j+1]'qs=z at *
     generalize pk (ps.take j)=L at hX MZ Wv
     clear wI tw hj;go_upto_region 13 with fail
     replace hX:=hX.drew;have QE:=Hh (And.intro iW ji);clear iW ji
     refine yt 17 (fun wx=>wx.cell? ⟨B,0,none⟩=some (.slice VA m vc)∧wx.cell? ⟨ib,io+j*4,none⟩=some (.int .i64 y.kind)∧wx.cell? ⟨ib,io+j*4+1,none⟩=some (.int .u64 y.n)∧wx.cell? ⟨ib,io+j*4+2,none⟩=some (.slice y1 y.bytes.length y2)∧wx.cell? ⟨ib,io+j*4+3,none⟩=some (.slice y3 y.items.length y4)∧wx.cell? ⟨ib,io+(j+1)*4,none⟩=some (.int .i64 z.kind)∧wx.cell? ⟨ib,io+(j+1)*4+1,none⟩=some (.int .u64 z.n)∧wx.cell? ⟨ib,io+(j+1)*4+2,none⟩=some (.slice z1 z.bytes.length z2)∧wx.cell? ⟨ib,io+(j+1)*4+3,none⟩=some (.slice z3 z.items.length z4)) (by kernel_rfl) (⟨hX.box.cell 0 rfl,hX.grows.holds.cell q0,hX.grows.holds.cell q1,hX.grows.holds.cell q2,hX.grows.holds.cell q3,hX.grows.holds.cell s0,hX.grows.holds.cell s1,hX.grows.holds.cell s2,hX.grows.holds.cell s3⟩) (fun zy=>?_)
     refine Zk 0 rfl zy ?_
     refine Zk 1 rfl zy ?_
     refine Zk 2 rfl zy ?_
     refine Zk 3 rfl zy ?_
     refine Zk 4 rfl zy ?_
     refine Zk 6 rfl zy ?_
     refine Zk 7 rfl zy ?_
     refine Zk 8 rfl zy ?_
     refine Zk 9 rfl zy ?_
     refine Zk 10 rfl zy ?_
     refine Zk 11 rfl zy ?_
     refine Zk 12 rfl zy ?_
     refine Zk 13 rfl zy ?_
     refine Zk 14 rfl zy ?_
     refine Zo 5 rfl fun K hK=>?_
     go_simp
     refine(rL y Hx _ _ _ _ _ _ _ _ _ _ (.slice none 0 0) [] HV.out.1 QE.out.1.arg hX.grows.holds (OwnB.nil _ _) (Nat.le_refl _) (by simp[Value.ownBlock]) (by have:=HV.out.2.2;simp;omega)).mono ?_
     rintro e w5 ⟨r5,rfl,s9,sp,_⟩
     obtain⟨A5,c5,rfl,_⟩:=OwnB.form s9;obtain⟨H5,xH,bF,_⟩:=Fresh.snapB hX.grows.holds ⟨s9,yo sp⟩;have hX:=hX.grow xH;have q0:=xH.le.cell q0;have q1:=xH.le.cell q1;have q2:=xH.le.cell q2;have q3:=xH.le.cell q3;have s0:=xH.le.cell s0;have s1:=xH.le.cell s1;have s2:=xH.le.cell s2;have s3:=xH.le.cell s3
     refine hK.out _ _ (fun _=>?_) (fun zy=>?_)
     ·exact⟨hX.box.cell 0 rfl,hX.grows.holds.cell q0,hX.grows.holds.cell q1,hX.grows.holds.cell q2,hX.grows.holds.cell q3,hX.grows.holds.cell s0,hX.grows.holds.cell s1,hX.grows.holds.cell s2,hX.grows.holds.cell s3⟩
     clear hK K;have zy:=zy (by decide)
     try simp only[Act.put,zz1,zz2,zz3,zz4,zz5,zz6]
     refine Zk 15 rfl zy ?_
     refine Zo 16 rfl fun K hK=>?_
     go_simp
     have RT:RowC gN H5 (.slice A5 (zd y).length c5::(zg y y1 y2 y3 y4++zg z z1 z2 z3 z4)) [(zd y,y,z)]:=RowC.one ⟨A5,c5,y1,y2,y3,y4,z1,z2,z3,z4,rfl,bF,QE.out.1.mono xH.le,QE.out.2.mono xH.le⟩;have hZ:=hX.litZ (.slice A5 (zd y).length c5::(zg y y1 y2 y3 y4++zg z z1 z2 z3 z4)).toArray 99;have hX:=hX.alloc (.cells (.slice A5 (zd y).length c5::(zg y y1 y2 y3 y4++zg z z1 z2 z3 z4)).toArray 99)
     refine hK.out _ _ (fun _=>?_) (fun zy=>?_)
     ·exact⟨hX.box.cell 0 rfl,hX.grows.holds.cell q0,hX.grows.holds.cell q1,hX.grows.holds.cell q2,hX.grows.holds.cell q3,hX.grows.holds.cell s0,hX.grows.holds.cell s1,hX.grows.holds.cell s2,hX.grows.holds.cell s3⟩
     clear hK K;have zy:=zy (by decide)
     try simp only[Act.put,zz1,zz2,zz3,zz4,zz5,zz6]
     refine Zo 17 rfl fun K hK=>?_
     rw[if_pos (by rfl)]
     refine OwnX.append_wp2 (L:=gN) _ _ 97 rfl Tryz.underlying97 rfl (by omega) k9 rfl hX.own _ _ _ _ [(zd y,y,z)] rfl rfl RT hZ (by have:=Wv.out;have:=HJ.out.2;have:=HC.out.2.2;simp;omega) hX.base fun v7 w7 xK hg7 ZX=>?_
     have hX:=hX.app xK hg7 ZX;obtain⟨A7,c7,rfl,_⟩:=xK.form;rw[show(L++[(zd y,y,z)]).length=m+1 by have:=Wv.out;simp;omega]at hX⊢;clear xK hg7 ZX hZ RT
     refine hK.out _ _ (fun h=>absurd h (by decide)) (fun _=>?_)
     clear hK K
     try simp only[Act.put,zz1,zz2,zz3,zz4,zz5,zz6]
     refine Zo 18 rfl fun K hK=>?_
     rw[if_pos (by rfl)]
     refine ze _ _ _ rfl B 0 (.slice A7 (m+1) c7) rfl rfl _ _ hX.box mU (by simp) rfl fun w8 TN hg8=>?_
     have hX:=hX.setBox (by simpa using TN) hg8;clear TN hg8
     refine hK.out _ _ (fun h=>absurd h (by decide)) (fun _=>?_)
     clear hK K
     try simp only[Act.put,zz1,zz2,zz3,zz4,zz5,zz6]
     refine WaysZ.done (by kernel_rfl) ?_
     clear zy q0 q1 q2 q3 s0 s1 s2 s3 xH bF;go_wp2_with fail
     go_roundw
     case rel=>exact⟨j+2,H5,A7,m+1,c7,by omega,by have:=HJ.out.1;omega,by go_num,by have:=HJ.out;omega,by rw[MZ.out];exact hX⟩
     case measure=>simp[intOf];omega
    ·have so:j=ps.length:=by omega
     subst so;clear yi hj;rw[List.take_length]at hX;have o9:(pk ps).length=n:=by rw[km,HN.out];omega
     obtain rfl:m=n:=by have:=HJ.out.2;have:=HN.out;omega
     obtain⟨g,d,LY,eJ,zC,Nd,XB,My⟩:=dI hX.own (by have:=HC.out;have:=HN.out;omega);subst LY;have Po:d.size=m:=by rw[Nd,o9]
     have uA:∀ j,j+1<d.size→Lib.compareBytes d[j]!.key d[j+1]!.key<0:=fun j hj=>by
      rw[XB j (by omega),XB (j+1) (by omega)];have e1:=pn ps j (by have:=HN.out;omega);have e2:=pn ps (j+1) (by have:=HN.out;omega);rw[List.getElem?_eq_getElem (by omega)]at e1 e2;rw[Option.some.inj e1,Option.some.inj e2];have h3:=dZ (m:=2*j) HA.out.1 (by omega) (by have:=HN.out;omega)
      exact h3
     have SRT:=dV d uA (by have:=HC.out;have:=HN.out;omega) (by omega) g 0 vc B _ hX.grows.holds (hX.apart g (by simp[Value.ownBlock])) My zC (by rw[Po];exact hX.box.cell 0 rfl) (fun e=>hX.far (by simp[Value.ownBlock,e])) hX.box.lt;rw[Po]at SRT;have SRTH:=Hh SRT;have c0:=hX.box.cell 0 rfl;have Wv:=Hh o9;clear SRT uA My XB Nd Po zC eJ o9;go_wp2_with fail
     refine SRTH.out.mono ?_
     rintro e w9 ⟨rfl,XS⟩
     replace hX:=hX.below XS;obtain⟨H9,px,Wi,Od,R1,N6,tk⟩:=hX.snap;clear Od;have UO:=hX.box;have sA:=hX.key;have Rt:=hX.lt;clear hX XS SRTH c0 Wi;have RK:=UO.lt;have hM:=(Blk.new w9 26 pt)
     have QX:H9 w9.heap.size=none:=px.holds.none_of_ge (Nat.le_refl _);obtain⟨M,QW⟩:∃ M,w9.heap.size=M:=⟨_,rfl⟩
     have HM:=Hh (And.intro px.size (And.intro RK QW));rw[QW]at hM QX;go_wp2_with (with_reducible refine zx ?_)
     unfold yE
     try rw[QW]
     refine zc rfl _ _ _ rfl rfl M _ rfl rfl _ _ hM zw rfl (wu _ _ _ _ rfl rfl rfl rfl) fun w11 hM11 hg11=>?_
     have hS:BM w H B M #[.slice (some ⟨g,0,none⟩) m vc] (.slice none 0 0) (.slice none 0 0) [] w11 H9 :=
      ⟨(px.alloc zr).grownOwn QX (by have:=HM.out;omega) hg11,N6,tk,QX,Rt,by have:=sA.lt;have:=HM.out;omega,by have:=HM.out;omega,(sA.alloc zr).grown hg11 (fun e=>by injection e with e;have:=sA.lt;have:=HM.out;omega),
       (UO.alloc zr).grown hg11 (fun e=>by injection e with e;have:=HM.out;omega),hM11,OwnI.nil _ _ _,fun g hg=>by simp[Value.ownBlock]at hg⟩
     have c0:=hS.boxB.cell 0 rfl;clear hM QX QW hg11 hM11 UO sA Rt RK px N6 tk;go_wp2_with fail
     go_loopw [62] (fun v62 wx=>∃ (i:Nat) (Hx:Snap) (VA:Option Addr) (vm v9:Nat),i≤m∧v62=.int .i64 (i:Int)∧vm=2*i∧H9.le Hx∧BM w H B M #[.slice (some ⟨g,0,none⟩) m vc] (.slice VA vm v9) (.slice VA vm v9) (ps.take (2*i)) wx Hx) (fun v62 _=>m-(intOf v62).toNat)
     case atStart=>exact⟨0,H9,none,0,0,Nat.zero_le _,rfl,rfl,Snap.le.refl _,by simpa using hS⟩
     case round =>
      clear hS c0;obtain⟨i,Hx,VA,vm,v9,Nl,rfl,O4,tw,hS⟩:=hrel;have HI:=Hh (And.intro Nl O4);clear Nl O4
      by_cases yi:i<m
      ·have qC:2*i+1<ps.length:=by have:=HN.out;omega
       have lG:(i:Int)<m:=by omega
       have OU:(i:Int)+1≤9223372036854775807:=by have:=HC.out.2.2;have:=HN.out;omega
       have Pu:=pn ps i qC;have eV:i<(pk ps).length:=by have:=Wv.out;omega
       rw[List.getElem?_eq_getElem eV]at Pu;have Rp:=Option.some.inj Pu
       have eS:Hid (ps.take (2*(i+1))=ps.take (2*i)++[ps[2*i]'(by omega),ps[2*i+1]]):=by
        rw[Hid,show 2*(i+1)=2*i+1+1 by omega,List.take_succ_eq_append_getElem qC,List.take_succ_eq_append_getElem (by omega),List.append_assoc];rfl
       have iL:Hid (∀ k,k+1=i→∀ hk:k<(pk ps).length,Lib.compareBytes ((pk ps)[k].1) (zd (ps[2*i]'(Nat.lt_of_succ_lt qC)))<0):=fun k hk so=>by
        subst hk;have e1:=pn ps k (by omega);rw[List.getElem?_eq_getElem so]at e1;rw[Option.some.inj e1]
        exact dZ (m:=2*k) HA.out.1 (by omega) (by omega)
       obtain⟨gb,go,nH,Yw⟩:=R1.at_ (by omega)
       cases nH
       obtain⟨dc,⟨KA,kc,y1,y2,y3,y4,z1,z2,z3,z4,Lc,Xa,iW,ji⟩,xq⟩:=Yw i eV;subst Lc;rw[Rp]at Xa iW ji xq;have WT:=Hh Yw;have r0:=tw.cell (xq 0 _ rfl);have r1:=tw.cell (xq 1 _ rfl);have r2:=tw.cell (xq 2 _ rfl);have r3:=tw.cell (xq 3 _ rfl);have r4:=tw.cell (xq 4 _ rfl);have r5:=tw.cell (xq 5 _ rfl);have r6:=tw.cell (xq 6 _ rfl);have r7:=tw.cell (xq 7 _ rfl);have r8:=tw.cell (xq 8 _ rfl);have Xa:=Xa.mono tw;have iW:=iW.mono tw;have ji:=ji.mono tw
       generalize ps[2*i]'(by omega)=y at *
       generalize ps[2*i+1]'qC=z at *
       generalize me:ps.take (2*i)=LL at hS eS
       have qz:Hid (LL.length=vm):=by rw[Hid,← me,List.length_take];have:=HI.out;omega
       have SL:=Hh (And.intro Xa (And.intro iW ji));clear Pu Rp xq Yw Xa iW ji me;have r0:=hS.grows.holds.cell r0;have r1:=hS.grows.holds.cell r1;have r2:=hS.grows.holds.cell r2;have r3:=hS.grows.holds.cell r3;have r4:=hS.grows.holds.cell r4;have r5:=hS.grows.holds.cell r5;have r6:=hS.grows.holds.cell r6;have r7:=hS.grows.holds.cell r7;have r8:=hS.grows.holds.cell r8
       simp only[gN,Nat.add_zero,Nat.zero_add,← Nat.add_assoc]at r0 r1 r2 r3 r4 r5 r6 r7 r8
       go_upto_region 19 with fail
       have hD:=Blk.new wr 99 #[.slice KA (zd y).length kc,.int .i64 y.kind,.int .u64 y.n,.slice y1 y.bytes.length y2,.slice y3 y.items.length y4,.int .i64 z.kind,.int .u64 z.n,.slice z1 z.bytes.length z2,.slice z3 z.items.length z4];replace hS:=hS.alloc (.cells #[.slice KA (zd y).length kc,.int .i64 y.kind,.int .u64 y.n,.slice y1 y.bytes.length y2,.slice y3 y.items.length y4,.int .i64 z.kind,.int .u64 z.n,.slice z1 z.bytes.length z2,.slice z3 z.items.length z4] 99);obtain⟨P,ZW⟩:∃ P,wr.heap.size=P:=⟨_,rfl⟩
       obtain⟨w2,oe⟩:∃ w2,wr.alloc (.cells #[.slice KA (zd y).length kc,.int .i64 y.kind,.int .u64 y.n,.slice y1 y.bytes.length y2,.slice y3 y.items.length y4,.int .i64 z.kind,.int .u64 z.n,.slice z1 z.bytes.length z2,.slice z3 z.items.length z4] 99)=w2:=⟨_,rfl⟩
       rw[oe]at hS hD⊢;rw[ZW]at hD⊢;clear oe ZW r0 r1 r2 r3 r4 r5 r6 r7 r8;go_cut [79] (fun s79 wx=>s79=.bool false∧BM w H B M #[.slice (some ⟨g,0,none⟩) m vc] (.slice VA vm v9) (.slice VA vm v9) LL wx Hx∧Blk wx P 99 #[.slice KA (zd y).length kc,.int .i64 y.kind,.int .u64 y.n,.slice y1 y.bytes.length y2,.slice y3 y.items.length y4,.int .i64 z.kind,.int .u64 z.n,.slice z1 z.bytes.length z2,.slice z3 z.items.length z4])
       case first =>
        by_cases h0:i=0
        ·subst h0
         refine zf 12 (fun _=>True) (by kernel_rfl) (trivial) (fun zy=>?_)
         refine Tk 0 rfl zy ?_
         refine Tk 1 rfl zy ?_
         refine Tk 2 rfl zy ?_
         refine TkU 3 rfl zy ?_
         refine TkU 4 rfl zy ?_
         refine TkU 5 rfl zy ?_
         refine TkU 6 rfl zy ?_
         refine TkU 7 rfl zy ?_
         refine TkU 8 rfl zy ?_
         refine TkU 9 rfl zy ?_
         refine TkU 10 rfl zy ?_
         refine TkU 11 rfl zy ?_
         refine To 12 rfl fun K hK=>?_
         go_simp
         refine hK.out _ _ (fun h=>absurd rfl h) (fun _=>?_)
         clear hK K
         try simp only[Act.put,zz4,zz5,zz6]
         refine Ways.done (by kernel_rfl) ?_
         go_wp2_with fail
         go_meet
         exact⟨rfl,hS.drew,hD.drew⟩
        ·obtain⟨k,rfl⟩:∃ k,i=k+1:=⟨i-1,by omega⟩
         obtain⟨dk,⟨KB,kd,u1,u2,u3,u4,u5,u6,u7,u8,XB,Qc,_,_⟩,xq⟩:=WT.out k (by have:=Wv.out;omega);subst XB
         have wd:Hid (((pk ps)[k]'(by have:=Wv.out;omega)).1≠zd y):=fun e=>by
          have h1:=iL.out k rfl (by have:=Wv.out;omega);rw[e,sr]at h1
          omega
         have rk:=xq 0 _ rfl
         generalize ((pk ps)[k]'(by have:=Wv.out;omega)).1=kb at *
         have rk:=hS.grows.holds.cell (tw.cell rk)
         simp only[gN,Nat.add_zero,Nat.zero_add]at rk
         have LR:Hid ((kb==zd y)=false):=by rw[Hid,beq_eq_false_iff_ne];exact wd.out
         have e2:((k+1:Nat):Int)=(k:Int)+1:=by omega
         try rw[e2]
         have o3:IntKind.i64.wrap ((k:Int)+1-1)=(k:Int):=by rw[show(k:Int)+1-1=(k:Int) by omega];exact IntWalk.i64_in _ (by omega)
         have KG:IntKind.i64.wrap (k:Int)=(k:Int):=IntWalk.i64_in _ (by omega);have No:(k:Int)<m:=by omega
         have qN:(0:Int)≤(k:Int):=by omega
         have Jw:(0:Int)<(k:Int)+1:=by omega
         have Qd:k<m:=by omega
         have QV:=Hh (Qc.mono tw);have c0:=hS.boxB.cell 0 rfl;have d0:=hD.cell 0 rfl;replace hS:=hS.drew;replace hD:=hD.drew;clear xq Qc wd e2 lG OU h0
         refine zf 12 (fun wx=>wx.cell? ⟨B,0,none⟩=some (.slice (some ⟨g,0,none⟩) m vc)∧wx.cell? ⟨g,k*9,none⟩=some (.slice KB kb.length kd)∧wx.cell? ⟨P,0,none⟩=some (.slice KA (zd y).length kc)) (by kernel_rfl) (⟨c0,rk,d0⟩) (fun zy=>?_)
         refine Tk 0 rfl zy ?_
         refine Tk 1 rfl zy ?_
         refine Tk 2 rfl zy ?_
         refine TkG 3 rfl zy ?_
         refine TkG 4 rfl zy ?_
         refine TkG 5 rfl zy ?_
         refine TkG 6 rfl zy ?_
         refine TkG 7 rfl zy ?_
         refine TkG 8 rfl zy ?_
         refine TkG 9 rfl zy ?_
         refine TkG 10 rfl zy ?_
         refine To 11 rfl fun K hK=>?_
         go_simp
         refine(eZ _ KB KA kb (zd y) _ _ kd kc rfl rfl (Src.of_row QV.out.row hS.grows.holds) (Src.of_row SL.out.1.row hS.grows.holds)).mono ?_
         rintro e w5 ⟨rfl,rfl⟩
         rw[LR.out]
         refine hK.out _ _ (fun _=>?_) (fun zy=>?_)
         ·exact⟨c0,rk,d0⟩
         clear hK K;have zy:=zy (by decide)
         try simp only[Act.put,zz4,zz5,zz6]
         refine To 12 rfl fun K hK=>?_
         go_simp
         refine hK.out _ _ (fun h=>absurd rfl h) (fun _=>?_)
         clear hK K
         try simp only[Act.put,zz4,zz5,zz6]
         refine Ways.done (by kernel_rfl) ?_
         clear zy c0 rk d0;go_wp2_with fail
         go_meet
         exact⟨rfl,hS,hD⟩
       case rest =>
        clear hS hD;obtain⟨rfl,hS,hD⟩:=hcut;have m3:=hS.boxM.cell 3 rfl;have d1:=hD.cell 1 rfl;have d2:=hD.cell 2 rfl;have d3:=hD.cell 3 rfl;have d4:=hD.cell 4 rfl;have d5:=hD.cell 5 rfl;have d6:=hD.cell 6 rfl;have d7:=hD.cell 7 rfl;have d8:=hD.cell 8 rfl;have HS:=Hh hS;clear hS hD;go_wp2_with (at_builtin;refine ye ?_)
        unfold yE
        have hZ:=HS.out.litZ (zg y y1 y2 y3 y4++zg z z1 z2 z3 z4).toArray 26;have hS:=HS.out.alloc (.cells (zg y y1 y2 y3 y4++zg z z1 z2 z3 z4).toArray 26)
        refine yw rfl _ _ rfl _ _ _ _ rfl hS.own _ _ _ _ [y,z] rfl rfl ((ItemsC.one SL.out.2.1).app (ItemsC.one SL.out.2.2)) hZ (by have:=qz.out;have:=HI.out;have:=HC.out.2.2;have:=HN.out;simp;omega) hS.base fun v7 w7 xK hg7 ZX=>?_
        replace hS:=hS.app xK hg7 ZX;obtain⟨A7,c7,rfl,_⟩:=xK.form;rw[show(LL++[y,z]).length=vm+2 by have:=qz.out;simp;omega]at hS⊢;clear xK hg7 ZX hZ HS m3 d1 d2 d3 d4 d5 d6 d7 d8;go_wp2_with (with_reducible refine zx ?_)
        refine zu rfl _ _ _ rfl rfl M 3 (.slice A7 (vm+2) c7) rfl rfl _ _ hS.boxM zR (by simp) rfl fun w8 TN hg8=>?_
        replace hS:=hS.setM (by simpa using TN) hg8;clear TN hg8;go_wp2_with fail
        go_roundw
        case rel=>exact⟨i+1,Hx,A7,vm+2,c7,by omega,by go_num,by have:=HI.out;omega,tw,by rw[eS.out];exact hS⟩
        case measure=>simp[intOf];omega
      ·have so:i=m:=by have:=HI.out.1;omega
       subst so;clear yi;rw[show 2*i=ps.length from HN.out.symm,List.take_length]at hS;obtain⟨Km,my,Ob,Zb,dy⟩:=hS.item;have m0:=hS.boxM.cell 0 rfl;have m1:=hS.boxM.cell 1 rfl;have m2:=hS.boxM.cell 2 rfl;have m3:=hS.boxM.cell 3 rfl;have sA:=hS.key;subst Ob;have SL:=Hh Zb;have HV:=Hh (tN (hTab.mono my.le) (x:=.mk 5 0 [] ps) Zb.arg _ my.holds);rw[HA.out.2.2]at HV;have L3:=Hh (uo HA.out.2.2);clear hS Zb;go_wp2_with fail
       refine HV.out.mono ?_
       rintro e w13 ⟨rfl,dt⟩
       have pE:=my.below_ dt;have m0:=(m0b dt m0)
       have m1:=(m0b dt m1)
       have m2:=(m0b dt m2)
       have m3:=(m0b dt m3)
       replace sA:=sA.below dt;have CP:=Hh (ee (.mk 5 0 [] ps) Km _ _ _ _ _ _ _ _ w13 L3.out SL.out.arg pE.holds);clear HV dt my;go_wp2_with fail
       refine CP.out.mono ?_
       rintro e w14 ⟨v14,rfl,xa,xb,xc,xd,QG,rfl,dg,OG⟩
       have RL:=pE.trans dg;have Oe:=dg.none dy sA.lt;replace sA:=sA.below dg.below;clear CP pE dg;go_wp2_with (with_reducible refine zx ?_)
       refine stI sA fun w16 dl hg16=>?_
       have WY:=RL.grownOwn Oe (Nat.le_refl _) hg16;clear RL hg16 sA;go_wp2_with fail
       refine zv rfl rfl dl rfl rfl zw rfl ?_
       exact⟨_,rfl,xa,xb,xc,xd,QG,rfl,WY,OG⟩
structure KAd where
 ia:Option Addr
 ic:Nat
 xa:Option Addr
 xc:Nat
 da:Option Addr
 dc:Nat
 ka:Option Addr
 kc:Nat
abbrev xU (q:Ky) (a:KAd):Array Value:=wX q.kty q.crv q.alg a.ia q.kid.length a.ic a.xa q.x.length a.xc a.da q.d.length a.dc a.ka q.k.length a.kc
structure KeyA (H:Snap) (q:Ky) (a:KAd):Prop where
 kty : -9223372036854775808≤q.kty∧q.kty≤9223372036854775807
 crv : -9223372036854775808≤q.crv∧q.crv≤9223372036854775807
 alg : -9223372036854775808≤q.alg∧q.alg≤9223372036854775807
 kid:IsBytes H a.ia a.ic q.kid
 x:IsBytes H a.xa a.xc q.x
 d:IsBytes H a.da a.dc q.d
 k:IsBytes H a.ka a.kc q.k
theorem KeyA.mono {H K:Snap}{q:Ky}{a:KAd}(h:KeyA H q a) (hl:H.le K):KeyA K q a:=⟨h.kty,h.crv,h.alg,h.kid.mono hl,h.x.mono hl,h.d.mono hl,h.k.mono hl⟩
theorem KeyA.len {H:Snap}{q:Ky}{a:KAd}(h:KeyA H q a):q.x.length≤9223372036854775807∧q.d.length≤9223372036854775807:=⟨Nat.le_trans h.x.le h.x.max,Nat.le_trans h.d.le h.d.max⟩
theorem mr (q:Ky):zp q.kty q.crv q.alg q.kid.length q.x.length q.d.length q.k.length=xF q:=rfl
theorem j5 (q:Ky):rf q.kty q.crv q.alg q.kid q.x q.d q.k=xo q:=rfl
def vb (q:Ky):Int:=if xF q=true then 0 else 1
def sM (q:Ky):Itm:=if xF q=true then tu q else zt
def VE (w:World) (H:Snap) (q:Ky) (e:Ending) (w':World):Prop:=∃ v,e=.returned (.tuple #[v,.int .i64 (vb q)])∧Gives w H (sM q) v w'
def YP (w:World) (q:Ky) (e:Ending) (w':World):Prop:=∃ r l,e=.returned (.tuple #[r,.int .i64 (vb q)])∧Fresh w l r w'∧l=if xF q=true then zd (tu q) else []
theorem kO {q:Ky}(h:xF q=true):q.kid.length≤64∧q.x.length≤64∧q.d.length≤64∧q.k.length≤64:=by
 have:=(uY q).1 h
 omega
theorem g8 {q:Ky}(h:xF q=true) (h4:q.kty=4):0<q.k.length:=by
 have:=(uY q).1 h
 omega
theorem f9 {q:Ky}(h:xF q=true):4≤(xo q).length:=by
 have h1:=(uY q).1 h
 by_cases h4:q.kty=4
 ·have hk:0<q.k.length:=g8 h h4
  simp only[xo,if_pos h4]
  rw[show rg (-1) q.k=[zX (-1),pw q.k] from if_pos hk]
  simp only[List.length_append,List.length_cons,List.length_nil]
  omega
 ·simp only[xo,if_neg h4]
  simp only[List.length_append,List.length_cons,List.length_nil]
  omega
theorem IsRowI.of {H:Snap}{A:Option Addr}{c:Nat}{l:List Itm}(h:l.length≤c∧c≤9223372036854775807∧(0<l.length→∃ b off,A=some ⟨b,off,none⟩∧IsElems H b off l)):IsRowI H A c l:=⟨h.1,h.2.1,h.2.2⟩
theorem kB {H:Snap}(hTab:Tabs H) {q:Ky}{a:KAd}(hq:KeyA H q a) (w:World) (hH:Holds w H) :
  Calls Tryz.prog 41 #[.agg (xU q a)] w (VE w H q):=by
 have yM:=(Blk.new w 33 (xU q a)).alloc (.cells pt 26);have hT:=Blk.new (w.alloc (.cells (xU q a) 33)) 26 pt;rw[zV]at hT;have sk:H (w.heap.size+1)=none:=hH.none_of_ge (by omega);have ws:=((Grows.refl hH).alloc (.cells (xU q a) 33)).alloc (.cells pt 26);have V:=Hh (fun W=>kC q.kty q.crv q.alg a.ia q.kid.length a.ic a.xa q.x.length a.xc a.da q.d.length a.dc a.ka q.k.length a.kc W hq.len.1 hq.len.2);have HQ:=Hh hq;have c0:=yM.cell 0 rfl;have c1:=yM.cell 1 rfl;have c2:=yM.cell 2 rfl;have c3:=yM.cell 3 rfl;have c4:=yM.cell 4 rfl;have c5:=yM.cell 5 rfl;have c6:=yM.cell 6 rfl;clear hq hH;go_enter Tryz.func41,Tryz.ntmps41
 go_wp2_with fail
 refine(V.out _).mono ?_
 rintro e w3 ⟨rfl,tl⟩
 rw[mr];replace hT:=hT.below tl;replace yM:=yM.below tl;have yO:=ws.below_ tl;clear ws tl V c0 c1 c2 c3 c4 c5 c6;have c0:=yM.cell 0 rfl;have c1:=yM.cell 1 rfl;have c2:=yM.cell 2 rfl;have c3:=yM.cell 3 rfl;have c4:=yM.cell 4 rfl;have c5:=yM.cell 5 rfl;have c6:=yM.cell 6 rfl;clear yM
 cases hv:xF q with
 | false =>
  have E:Hid (vb q=1∧sM q=zt):=⟨by rw[vb,if_neg (by rw[hv];simp)],by rw[sM,if_neg (by rw[hv];simp)]⟩
  clear hv;go_wp2_with (with_reducible refine zx ?_)
  refine stI hT fun w9 ui hg9=>?_
  have px:=yO.grownOwn sk (by omega) hg9;go_wp2_with fail
  refine zv rfl rfl ui rfl rfl zw rfl ?_
  exact⟨_,by rw[E.out.1];rfl,by rw[E.out.2];exact⟨none,0,none,0,H,rfl,px,IsItem.plain H 0 0 (by omega) (by omega)⟩⟩
 | true =>
  have E:Hid (vb q=0∧sM q=.mk 5 0 [] (xo q)):=⟨by rw[vb,if_pos hv],by rw[sM,if_pos hv];rfl⟩
  have HV:=Hh hv;clear hv;go_wp2_with fail
  refine(aJ q.kty q.crv q.alg HQ.out.kty HQ.out.crv HQ.out.alg HQ.out.kid HQ.out.x HQ.out.d HQ.out.k (kO HV.out) _ yO.holds).mono ?_
  rintro e w4 ⟨v4,rfl,A4,c9,H4,rfl,wH,V6⟩
  rw[j5]at V6⊢;have xH:=yO.trans wH;have jR:=wH.none sk hT.lt;replace hT:=hT.below wH.below;have Ow:=Hh (IsRowI.of V6);have HB:=Hh (cQ (hTab.mono xH.le) Ow.out (pe q) (f9 HV.out) (by have:=(qh q).2;omega) (oB q) (om HV.out) (wE HV.out) w4 xH.holds);clear wH V6 yO c0 c1 c2 c3 c4 c5 c6;go_wp2_with fail
  refine HB.out.mono ?_
  rintro e w6 ⟨v6,rfl,xa,xb,xc,xd,H6,rfl,zJ,Si⟩
  have wP:=xH.trans zJ;have dm:=zJ.none jR hT.lt;replace hT:=hT.below zJ.below;clear zJ xH HB;go_wp2_with (with_reducible refine zx ?_)
  refine stI hT fun w9 ui hg9=>?_
  have px:=wP.grownOwn dm (by omega) hg9;go_wp2_with fail
  refine zv rfl rfl ui rfl rfl zw rfl ?_
  exact⟨_,by rw[E.out.1];rfl,by rw[E.out.2];exact⟨xa,xb,xc,xd,H6,rfl,px,Si⟩⟩
theorem qW {H:Snap}(hTab:Tabs H) {q:Ky}{a:KAd}(hq:KeyA H q a) (w:World) (hH:Holds w H) :
  Calls Tryz.prog 8 #[.agg (xU q a)] w (VE w H q):=by
 have yM:=(Blk.new w 33 (xU q a)).alloc (.cells pt 26);have hT:=Blk.new (w.alloc (.cells (xU q a) 33)) 26 pt;rw[zV]at hT;have sk:H (w.heap.size+1)=none:=hH.none_of_ge (by omega);have ws:=((Grows.refl hH).alloc (.cells (xU q a) 33)).alloc (.cells pt 26);have V:=Hh (fun W=>dP q.kty q.crv q.alg a.ia q.kid.length a.ic a.xa q.x.length a.xc a.da q.d.length a.dc a.ka q.k.length a.kc W hq.len.1 hq.len.2);have HQ:=Hh hq;have c0:=yM.cell 0 rfl;have c1:=yM.cell 1 rfl;have c2:=yM.cell 2 rfl;have c3:=yM.cell 3 rfl;have c4:=yM.cell 4 rfl;have c5:=yM.cell 5 rfl;have c6:=yM.cell 6 rfl;clear hq hH;go_enter Tryz.func8,Tryz.ntmps8
 go_wp2_with fail
 refine(V.out _).mono ?_
 rintro e w3 ⟨rfl,tl⟩
 rw[mr];replace hT:=hT.below tl;replace yM:=yM.below tl;have yO:=ws.below_ tl;clear ws tl V c0 c1 c2 c3 c4 c5 c6;have c0:=yM.cell 0 rfl;have c1:=yM.cell 1 rfl;have c2:=yM.cell 2 rfl;have c3:=yM.cell 3 rfl;have c4:=yM.cell 4 rfl;have c5:=yM.cell 5 rfl;have c6:=yM.cell 6 rfl;clear yM
 cases hv:xF q with
 | false =>
  have E:Hid (vb q=1∧sM q=zt):=⟨by rw[vb,if_neg (by rw[hv];simp)],by rw[sM,if_neg (by rw[hv];simp)]⟩
  clear hv;go_wp2_with (with_reducible refine zx ?_)
  refine stI hT fun w9 ui hg9=>?_
  have px:=yO.grownOwn sk (by omega) hg9;go_wp2_with fail
  refine zv rfl rfl ui rfl rfl zw rfl ?_
  exact⟨_,by rw[E.out.1];rfl,by rw[E.out.2];exact⟨none,0,none,0,H,rfl,px,IsItem.plain H 0 0 (by omega) (by omega)⟩⟩
 | true =>
  have E:Hid (vb q=0∧sM q=.mk 5 0 [] (xo q)):=⟨by rw[vb,if_pos hv],by rw[sM,if_pos hv];rfl⟩
  have HV:=Hh hv;clear hv;go_wp2_with fail
  refine(fC q.kty q.crv q.alg HQ.out.kty HQ.out.crv HQ.out.alg HQ.out.kid HQ.out.x HQ.out.d HQ.out.k (kO HV.out) (g8 HV.out) _ yO.holds).mono ?_
  rintro e w4 ⟨v4,rfl,A4,c9,H4,rfl,wH,V6⟩
  rw[j5]at V6⊢;have xH:=yO.trans wH;have jR:=wH.none sk hT.lt;replace hT:=hT.below wH.below;have Ow:=Hh (IsRowI.of V6);have HB:=Hh (oO (hTab.mono xH.le) Ow.out (by have:=(qh q).2;omega) w4 xH.holds);clear wH V6 yO c0 c1 c2 c3 c4 c5 c6;go_wp2_with fail
  refine HB.out.mono ?_
  rintro e w6 ⟨v6,h6⟩
  have LK:∃ xa xb xc xd H6,e=.returned (.tuple #[xN (.mk 5 0 [] (xo q)) xa xb xc xd,.int .i64 0])∧Grows w4 H4 w6 H6∧IsItem H6 xa xb xc xd (.mk 5 0 [] (xo q)):=by
   rcases h6 with ⟨l,rfl,⟨xa,xb,xc,xd,H6,rfl,zJ,Si⟩,_,_,hl⟩ | ⟨_,_,_,_,lr⟩
   ·obtain rfl:=hl (YT HV.out).2.1
    exact⟨xa,xb,xc,xd,H6,rfl,zJ,Si⟩
   ·exact absurd (YT HV.out) lr
  clear h6;obtain⟨xa,xb,xc,xd,H6,rfl,zJ,Si⟩:=LK;have wP:=xH.trans zJ;have dm:=zJ.none jR hT.lt;replace hT:=hT.below zJ.below;clear zJ xH HB;go_wp2_with (with_reducible refine zx ?_)
  refine stI hT fun w9 ui hg9=>?_
  have px:=wP.grownOwn dm (by omega) hg9;go_wp2_with fail
  refine zv rfl rfl ui rfl rfl zw rfl ?_
  exact⟨_,by rw[E.out.1];rfl,by rw[E.out.2];exact⟨xa,xb,xc,xd,H6,rfl,px,Si⟩⟩
theorem d9 {H:Snap}(hTab:Tabs H) {q:Ky}{a:KAd}(hq:KeyA H q a) (w:World) (hH:Holds w H) :
  Calls Tryz.prog 22 #[.agg (xU q a)] w (YP w q):=by
 have ws:=(Grows.refl hH).alloc (.cells (xU q a) 33);have yM:=Blk.new w 33 (xU q a);have TI:=Hh (fun W hW=>kB hTab hq W hW);have c0:=yM.cell 0 rfl;have c1:=yM.cell 1 rfl;have c2:=yM.cell 2 rfl;have c3:=yM.cell 3 rfl;have c4:=yM.cell 4 rfl;have c5:=yM.cell 5 rfl;have c6:=yM.cell 6 rfl;clear hq yM hH;go_enter Tryz.func22,Tryz.ntmps22
 go_wp2_with fail
 refine(TI.out _ ws.holds).mono ?_
 rintro e w3 ⟨v3,rfl,xa,xb,xc,xd,H3,rfl,yO,X3⟩
 have wH:=ws.trans yO;clear ws yO TI c0 c1 c2 c3 c4 c5 c6
 cases hv:xF q with
 | false =>
  have E:Hid (vb q=1):=by rw[Hid,vb,if_neg (by rw[hv];simp)]
  have HV:=Hh hv;rw[E.out];clear hv;go_wp2_with fail
  go_ret2
  exact⟨_,[],by rw[E.out];rfl,⟨OwnB.nil _ _,by first | exact wH.below | exact(wH.alloc _).below⟩,by rw[HV.out];rfl⟩
 | true =>
  have E:Hid (vb q=0):=by rw[Hid,vb,if_pos hv]
  have E2:Hid (sM q=tu q):=by rw[Hid,sM,if_pos hv]
  have HV:=Hh hv;rw[E.out];rw[E2.out]at X3⊢;obtain⟨x,hx⟩:∃ x,tu q=x:=⟨_,rfl⟩
  have HX:=Hh hx;have ST:=Hh (wE HV.out);rw[hx]at X3⊢;rw[HX.out]at ST;have EN:=Hh (fun W (hW:Holds W H3)=>ec (hTab.mono wH.le) X3.arg W hW);have xH:=wH.alloc (zW x xa xb xc xd);clear hv hx;go_wp2_with fail
  refine(EN.out _ xH.holds).mono ?_
  rintro e w5 (⟨lr,_⟩ | ⟨_,r5,rfl,vT⟩)
  ·rw[ST.out]at lr;cases lr
  ·have hb:=xH.below.trans (vT.2.mono xH.size);have ho:=vT.own.more (base':=w.heap.size) xH.size;clear vT xH wH X3 EN;go_wp2_with fail
   go_ret2
   exact⟨_,zd x,by rw[E.out];rfl,⟨ho,hb⟩,by rw[HV.out,HX.out];rfl⟩
theorem hJ {H:Snap}(hTab:Tabs H) {q:Ky}{a:KAd}(hq:KeyA H q a) (w:World) (hH:Holds w H) :
  Calls Tryz.prog 9 #[.agg (xU q a)] w (YP w q):=by
 have ws:=(Grows.refl hH).alloc (.cells (xU q a) 33);have yM:=Blk.new w 33 (xU q a);have TI:=Hh (fun W hW=>qW hTab hq W hW);have c0:=yM.cell 0 rfl;have c1:=yM.cell 1 rfl;have c2:=yM.cell 2 rfl;have c3:=yM.cell 3 rfl;have c4:=yM.cell 4 rfl;have c5:=yM.cell 5 rfl;have c6:=yM.cell 6 rfl;clear hq yM hH;go_enter Tryz.func9,Tryz.ntmps9
 go_wp2_with fail
 refine(TI.out _ ws.holds).mono ?_
 rintro e w3 ⟨v3,rfl,xa,xb,xc,xd,H3,rfl,yO,X3⟩
 have wH:=ws.trans yO;clear ws yO TI c0 c1 c2 c3 c4 c5 c6
 cases hv:xF q with
 | false =>
  have E:Hid (vb q=1):=by rw[Hid,vb,if_neg (by rw[hv];simp)]
  have HV:=Hh hv;rw[E.out];clear hv;go_wp2_with fail
  go_ret2
  exact⟨_,[],by rw[E.out];rfl,⟨OwnB.nil _ _,by first | exact wH.below | exact(wH.alloc _).below⟩,by rw[HV.out];rfl⟩
 | true =>
  have E:Hid (vb q=0):=by rw[Hid,vb,if_pos hv]
  have E2:Hid (sM q=tu q):=by rw[Hid,sM,if_pos hv]
  have HV:=Hh hv;rw[E.out];rw[E2.out]at X3⊢;obtain⟨x,hx⟩:∃ x,tu q=x:=⟨_,rfl⟩
  have HX:=Hh hx;have ST:=Hh (wE HV.out);rw[hx]at X3⊢;rw[HX.out]at ST;have EN:=Hh (fun W (hW:Holds W H3)=>dO (hTab.mono wH.le) X3.arg W hW);have xH:=wH.alloc (zW x xa xb xc xd);clear hv hx;go_wp2_with fail
  refine(EN.out _ xH.holds).mono ?_
  rintro e w5 (⟨lr,_⟩ | ⟨_,r5,rfl,vT⟩)
  ·rw[ST.out]at lr;cases lr
  ·have hb:=xH.below.trans (vT.2.mono xH.size);have ho:=vT.own.more (base':=w.heap.size) xH.size;clear vT xH wH X3 EN;go_wp2_with fail
   go_ret2
   exact⟨_,zd x,by rw[E.out];rfl,⟨ho,hb⟩,by rw[HV.out,HX.out];rfl⟩
theorem lf (n:Int) (w:World) :
  Calls Tryz.prog 26 #[.int .i64 n] w fun e w'=>∃ A c l,e=.returned (.slice A 32 c)∧l.length=32∧Fresh w l (.slice A 32 c) w':=by
 have vg:=Below.refl w.heap.size w;go_enter Tryz.func26,Tryz.ntmps26
 go_wp2_with fail
 go_loopw [3,5] (fun v3 v5 wr=>∃ (k:Nat) (VA:Option Addr) (vc vn:Nat) (l:List UInt8),k≤32∧v5=.int .i64 (k:Int)∧v3=.slice VA vn vc∧vn=k∧l.length=k∧OwnB wr w.heap.size (.slice VA vn vc) l∧Below w.heap.size w wr) (fun _ v5 _=>32-(intOf v5).toNat)
 case atStart=>exact⟨0,none,0,0,[],by omega,rfl,rfl,rfl,rfl,OwnB.nil _ _,vg⟩
 case round =>
  clear vg;obtain⟨k,VA,vc,vn,l,hk,rfl,rfl,lW,rI,ww,xS⟩:=hrel;have HK:=Hh hk;have HV:=Hh (And.intro lW rI);clear hk lW rI
  by_cases yi:k<32
  ·have eL:(k:Int)<32:=by omega
   have pX:decide ((k:Int)<32)=true:=decide_eq_true eL;have Zd:decide (k<32)=true:=decide_eq_true yi;have qE:=Hh yi;go_wp2_with (at_builtin;refine ye ?_)
   unfold yE
   obtain⟨x,hx⟩:∃ x:UInt8,Value.int .u8 (bits BinOp.xor IntKind.u8 (IntKind.u64.wrap n/2 ^ (8*(k%8))%256) (37*((k:Int)/8)))=zD x:=ij _
   generalize bits BinOp.xor IntKind.u8 (IntKind.u64.wrap n/2 ^ (8*(k%8))%256) (37*((k:Int)/8))=v at hx⊢
   have HC:Hid ((#[.int .u8 v]:Array Value).toList=[x].map zD):=by simp[Hid,← hx]
   have pW:=ww.alloc (.cells #[.int .u8 v] 5);have wg:=xS.alloc xS.size (.cells #[.int .u8 v] 5)
   refine zO rfl (.tmp 8) (.tmp 22) rfl w.heap.size (.slice VA vn vc) l rfl pW _ 1 _ [x] rfl rfl (Src.new _ _ _ _ rfl _ HC.out) (by have:=HV.out;have:=HK.out;simp;omega) wg.size fun v' w7 xK hg7 hat7=>?_
   have wj:=wg.grown hg7 wg.size (fun q hq=>(pW.lt q hq).1);obtain⟨VA',vc',rfl,Qx⟩:=xK.form;clear Qx hg7 hat7 hx pW wg ww xS;obtain⟨m,hm⟩:∃ m,l++[x]=m:=⟨_,rfl⟩
   have HM:Hid (m.length=k+1):=by have:=HV.out;rw[Hid,← hm,List.length_append];simp;omega
   rw[hm]at xK⊢;clear hm;go_wp2_with fail
   go_roundw
   case rel=>exact⟨k+1,VA',vc',_,m,by have:=qE.out;omega,by go_num,rfl,HM.out,HM.out,xK,wj⟩
   case measure=>have:=qE.out;simp[intOf];omega
  ·have eL:¬ ((k:Int)<32):=by omega
   have pX:decide ((k:Int)<32)=false:=decide_eq_false eL;have Zd:decide (k<32)=false:=decide_eq_false yi;have OV:k=32:=by have:=HK.out;omega
   have HL:Hid (l.length=32):=by have:=HV.out;rw[Hid];omega
   obtain rfl:vn=32:=by have:=HV.out;omega
   clear yi OV;go_wp2_with fail
   go_ret
   exact⟨VA,vc,rfl,l,HL.out,ww,xS⟩
end Go.Proofs.YtnlinmoiakgedaaGreatDoor
