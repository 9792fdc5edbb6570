/- squeezed. Walks: a group with one member mor -/
import Derived.Test.YtgaoknihklmakabGreatDoorK17
set_option linter.unusedVariables false
set_option linter.unusedSimpArgs false
set_option maxRecDepth 100000
set_option maxHeartbeats 25600000
namespace Go.Proofs.YtgaoknihklmakabGreatDoor
open Go.RowKit
theorem jaV{P:Prop}(h:P:=by
 rcases hf b o hb with h1 | h1
 ·exact h.grows.fresh b o h1
 exact jeT):P:=h
theorem jdM{P:Prop}(h:P:=by exact⟨gn.cell 0 rfl,gn.cell 1 rfl,gn.cell 2 rfl,gn.cell 3 rfl⟩):P:=h
def OZ:Value→Nat
 | .bool true=>1
 | _=>0
structure DR (W0:World) (H:Snap) (mc pc:Array Value) (P:Nat) (v:Value) (l:List Mb) (Hr:Snap) (w:World):Prop where
 grows:Grows W0 H w Hr
 mem:Blk w (W0.heap.size+1) 27 mc
 res:Blk w (W0.heap.size+2) 25 yf
 var:Blk w P 25 pc
 far:W0.heap.size+3≤P
 hM:Hr (W0.heap.size+1)=none
 hT:Hr (W0.heap.size+2)=none
 hP:Hr P=none
 own:OwnX vQ 27 w (W0.heap.size+3) v Hr l
 ne:v.ownBlock≠some P
 apart:∀ g,v.ownBlock=some g→Hr g=none
section
variable {W0 w w':World} {H Hr Hs:Snap} {mc mc' pc pc':Array Value} {P:Nat} {v v':Value} {l l':List Mb}
theorem DR.grow (h:DR W0 H mc pc P v l Hr w) (k:Grows w Hr w' Hs):DR W0 H mc pc P v l Hs w' :=
 ⟨h.grows.trans k,h.mem.below k.below,h.res.below k.below,h.var.below k.below,h.far,k.none h.hM h.mem.lt,k.none h.hT h.res.lt,k.none h.hP h.var.lt,(h.own.below k.below).mono k.le,h.ne,fun g hg=>k.none (h.apart g hg) (h.own.lt g hg).2⟩
theorem DR.belowX (h:DR W0 H mc pc P v l Hr w) (k:Below w.heap.size w w'):DR W0 H mc pc P v l Hr w':=h.grow (Grows.of_below h.grows.holds k)
theorem DR.alloc (h:DR W0 H mc pc P v l Hr w) (o:Obj):DR W0 H mc pc P v l Hr (w.alloc o):=h.belowX (zm w o)
theorem DR.drew (h:DR W0 H mc pc P v l Hr w):DR W0 H mc pc P v l Hr w.drew:=h.belowX (Below.refl _ _).drew
theorem DR.setM (h:DR W0 H mc pc P v l Hr w) (hB:Blk w' (W0.heap.size+1) 27 mc') (hg:w.grownBy w' (some (W0.heap.size+1))):DR W0 H mc' pc P v l Hr w' :=
 ⟨h.grows.grownOwn h.hM (by omega) hg,hB,h.res.gr hg (by omega),h.var.grown hg (by intro e;injection e with e;have:=h.far;omega),h.far,h.hM,h.hT,h.hP,h.own.kept hg (.inr (by intro e;have:=(h.own.lt _ e).1;omega)),h.ne,h.apart⟩
theorem DR.setP (h:DR W0 H mc pc P v l Hr w) (hB:Blk w' P 25 pc') (hg:w.grownBy w' (some P)):DR W0 H mc pc' P v l Hr w' :=
 ⟨h.grows.grownOwn h.hP (by have:=h.far;omega) hg,h.mem.grown hg (by intro e;injection e with e;have:=h.far;omega),h.res.grown hg (by intro e;injection e with e;have:=h.far;omega),hB,h.far,h.hM,h.hT,h.hP,h.own.kept hg (.inr h.ne),h.ne,h.apart⟩
theorem DR.app (h:DR W0 H mc pc P v l Hr w) (hO:OwnX vQ 27 w' (W0.heap.size+3) v' Hr l') (hg:w.grownBy w' v.ownBlock) (ha:At0 w v.ownBlock v'.ownBlock):DR W0 H mc pc P v' l' Hr w' :=
 ⟨h.grows.grownRow h.apart (fun g hg=>by have:=(h.own.lt g hg).1;omega) hg,h.mem.grown hg (fun e=>by have:=(h.own.lt _ e).1;omega),h.res.grown hg (fun e=>by have:=(h.own.lt _ e).1;omega),h.var.grown hg h.ne,h.far,h.hM,h.hT,h.hP,hO,by
  rcases ha with e | ⟨g',e,hs⟩
  ·rw[e];exact h.ne
  ·rw[e]
   intro e2
   injection e2 with e2
   have:=h.var.lt
   omega,fun g hv=>by
  rcases ha with e | ⟨g',e,hs⟩
  ·exact jb0
  rw[hv]at e;injection e with e
  subst e
  exact h.grows.hidden hs⟩
theorem DR.base (h:DR W0 H mc pc P v l Hr w):W0.heap.size+3≤w.heap.size:=h.res.lt
theorem DR.freeze {A:Option Addr}{m c:Nat}(h:DR W0 H mc pc P (.slice A m c) l Hr w):∃ H',Grows W0 H w H'∧Hr.le H'∧m=l.length∧IsRow vQ H' A c l∧H' (W0.heap.size+2)=none:=by
 obtain⟨H',hl,hh,hf,hn,hi⟩:=h.own.snap h.grows.holds (fun g hg=>h.apart g (by cases A <;> simp_all [Value.ownBlock]))
 refine⟨H',⟨h.grows.below,h.grows.le.trans hl,hh,fun b o hb=>?_⟩,hl,hn,hi, ?_⟩
 ·exact jaV
 cases hz:H' (W0.heap.size+2) with
 | none=>rfl
 | some o =>
 rcases hf _ o hz with h1 | h1
 ·rw[h.hT]at h1;cases h1
 have:=(h.own.lt (W0.heap.size+2) (by cases A <;> simp_all [Value.ownBlock])).1
 omega
end
theorem Sb (k:Nat):(#[.int .u8 ((k:Int)%256)]:Array Value).toList=[sT k 0].map zT:=by
 simp only[List.map_cons,List.map_nil]
 rw[fL k 0 1 rfl,Int.ediv_one]
theorem kZ {sP:Mb→Bool}{H:Snap}(hS:SoundIsR sP H) {g:Gp}{a:EAd}(hg:GpA H g a) {m:Mb}{b:MAd}(hm:MemA H m b) (w:World) (hH:Holds w H) :
  Calls Tryz.prog 15 #[.agg (gpQ g a),.agg (y7 m b)] w (rO sP w H g m):=by
 have V:Hid (∀ wx,Holds wx H→Calls Tryz.prog 12 #[.agg (gpC a.ia g.id.length a.ic a.sa g.secret.length a.sc g.number a.ma g.members.length a.mc)] wx (wk sP wx g)):=fun wx hx=>rL hS hg wx hx
 have C:Hid (∀ wx,Holds wx H→Calls Tryz.prog 39 #[.agg (gpC a.ia g.id.length a.ic a.sa g.secret.length a.sc g.number a.ma g.members.length a.mc)] wx (CopyG wx H g a)):=fun wx hx=>o4 hg wx hx
 have SD:Hid (∀ wx,Holds wx H→Calls Tryz.prog 32 #[.agg (yW m.name m.roles m.since b.sa m.sender.length b.sc b.ca m.cred.length b.cc b.ha m.share.length b.hc b.wa m.wrap.length b.wc)] wx fun e w'=>e=.returned (.bool (sP m))∧Below wx.heap.size wx w'):=fun wx hx=>hS H (Snap.le.refl H) m b wx hm hx
 have HG:=Hh hg;have HM:=Hh hm;have HH:=Hh hH;obtain⟨il,tL⟩:∃ n,n=g.id.length:=⟨_,rfl⟩
 obtain⟨sl,sJ⟩:∃ n,n=g.secret.length:=⟨_,rfl⟩
 obtain⟨ml,tP⟩:∃ n,n=g.members.length:=⟨_,rfl⟩
 obtain⟨ls,ZC⟩:∃ n,n=m.sender.length:=⟨_,rfl⟩
 obtain⟨lc,eC⟩:∃ n,n=m.cred.length:=⟨_,rfl⟩
 obtain⟨lh,be⟩:∃ n,n=m.share.length:=⟨_,rfl⟩
 obtain⟨lw,eD⟩:∃ n,n=m.wrap.length:=⟨_,rfl⟩
 have HN:=jf2;have HL:=Hh (And.intro ZC (And.intro eC (And.intro be eD)));show Calls Tryz.prog 15 #[.agg (gpC a.ia g.id.length a.ic a.sa g.secret.length a.sc g.number a.ma g.members.length a.mc),.agg (yW m.name m.roles m.since b.sa m.sender.length b.sc b.ca m.cred.length b.cc b.ha m.share.length b.hc b.wa m.wrap.length b.wc)] w (rO sP w H g m)
 rw[← tL,← sJ,← tP]at V C⊢;rw[← ZC,← eC,← be,← eD]at SD⊢
 have hA:AM w (gpC a.ia il a.ic a.sa sl a.sc g.number a.ma ml a.mc) (yW m.name m.roles m.since b.sa ls b.sc b.ca lc b.cc b.ha lh b.hc b.wa lw b.wc) (((w.alloc (.cells (gpC a.ia il a.ic a.sa sl a.sc g.number a.ma ml a.mc) 25)).alloc (.cells (yW m.name m.roles m.since b.sa ls b.sc b.ca lc b.cc b.ha lh b.hc b.wa lw b.wc) 27)).alloc (.cells yf 25)):=by
  exact jaA
 have BAD:Hid (∀ (wx:World) (n:Int),Below w.heap.size w wx→AdmP sP g m n vR []→rO sP w H g m (.returned (.tuple #[.agg yf,.slice none 0 0,.int .i64 n])) wx):=fun wx n h2 h3=>⟨vR,⟨none,0,none,0,none,0⟩,H,none,0,[],n,rfl,Grows.of_below HH.out h2,oB H,IsBytes.nil _,h3⟩
 clear tL sJ tP ZC eC be eD hg hm hH hS;go_enter Tryz.func15,Tryz.ntmps15
 go_upto_region 1 with fail
 generalize ((w.alloc (.cells (gpC a.ia il a.ic a.sa sl a.sc g.number a.ma ml a.mc) 25)).alloc (.cells (yW m.name m.roles m.since b.sa ls b.sc b.ca lc b.cc b.ha lh b.hc b.wa lw b.wc) 27)).alloc (.cells yf 25)=w1 at hA⊢
 obtain⟨g0,g1,g2,g3⟩:=jgA;go_wp2_with fail
 refine(V.out _ (HH.out.below hA.below (Nat.le_refl _))).mono ?_
 rintro e w2 ⟨b2,rfl,kH,zC⟩
 replace hA:=hA.belowX zC;have HA:=Hh kH;clear zC kH V g0 g1 g2 g3
 cases b2 with
 | false =>
  exact jeQ
 | true =>
 have GD:=Hh (HA.out.1 rfl);clear HA
 simp only[Bool.not_true]
 have m0:=hA.mem.cell 0 rfl;have m1:=hA.mem.cell 1 rfl;have m2:=hA.mem.cell 2 rfl;have m3:=hA.mem.cell 3 rfl;have m4:=hA.mem.cell 4 rfl;have m5:=hA.mem.cell 5 rfl;have m6:=hA.mem.cell 6 rfl;go_wp2_with fail
 refine(SD.out _ (HH.out.below hA.below (Nat.le_refl _))).mono ?_
 rintro e w3 ⟨rfl,xy⟩
 replace hA:=hA.belowX xy;clear xy m0 m1 m2 m3 m4 m5 m6 SD;obtain⟨b3,xy⟩:∃ b,sP m=b:=⟨_,rfl⟩
 have UJ:=Hh xy;rw[xy];clear xy
 cases b3 with
 | false =>
  exact jeN
 | true =>
 simp only[Bool.not_true]
 have m5:=hA.mem.cell 5 rfl
 by_cases c16:lw=16
 case neg =>
  have e1:((lw:Int)=16)=False:=eq_false (by omega);have e2:((lw:Int)==16)=false:=beq_eq_false_iff_ne.2 (by omega);have e3:((lw:Int) != 16)=true:=by rw[bne,e2];rfl
  exact jeI
 have e1:((lw:Int)=16)=True:=eq_true (by omega);have e2:((lw:Int)==16)=true:=beq_iff_eq.2 (by omega);have e3:((lw:Int) != 16)=false:=by rw[bne,e2];rfl
 have ARG:Hid (bE sP g m):=⟨GD.out,UJ.out,by have:=HL.out.2.2.2;omega⟩
 clear c16;go_upto_region 3 with fail
 clear e1 e2 e3 m5;have g3:=hA.grp.cell 3 rfl;go_wp2_with fail
 clear g3;have Z6:Hid ((ml:Int)≤16):=by have h:=GD.out.few;have h2:=HN.out.2.2;rw[Hid];omega
 have H0:Hid (¬ pT (g.members.take 0) m):=by rintro⟨o,ho,_⟩;rw[List.take_zero]at ho;cases ho
 go_loopw [32] (fun v32 wr=>∃ j:Nat,v32=.int .i64 (j:Int)∧Hid (j≤ml)∧Hid (¬ pT (g.members.take j) m)∧AM w (gpC a.ia il a.ic a.sa sl a.sc g.number a.ma ml a.mc) (yW m.name m.roles m.since b.sa ls b.sc b.ca lc b.cc b.ha lh b.hc b.wa lw b.wc) wr) (fun v32 _=>(ml:Int).toNat+1-(intOf v32).toNat)
 case atStart=>exact⟨0,rfl,Nat.zero_le _,H0,hA⟩
 case round =>
 clear hA H0;obtain⟨j,rfl,HJ,RH,hA⟩:=hrel
 by_cases zB:(j:Int)<(ml:Int)
 ·have uU:j<g.members.length:=by rw[← HN.out.2.2];omega
  obtain⟨gb,go,sG,uF⟩:=HG.out.members.at_ (by omega);obtain⟨d,hd,hc⟩:=uF j uU;obtain⟨xa,hd,th⟩:=hd;subst hd;obtain⟨x,hx⟩:∃ x,g.members[j]=x:=⟨_,rfl⟩
  rw[hx]at hc th;have Ul:Hid (g.members.take (j+1)=g.members.take j++[x]):=by rw[Hid,← hx];exact List.take_succ_eq_append_getElem uU
  have TW:Hid (x.name=m.name∨x.cred=m.cred∨x.wrap=m.wrap→AdmP sP g m 7 vR []):=fun h=>.twice ARG.out ⟨x,by rw[← hx];exact List.getElem_mem uU,h⟩
  have yB:=HH.out.below hA.below (Nat.le_refl _);obtain⟨r0,r1,r2,r3,r4,r5,r6⟩:=jfy
  simp only[vQ,Nat.add_zero,Nat.zero_add,← Nat.add_assoc]at r0 r1 r2 r3 r4 r5 r6
  have qS:=Hh th;have hQ:=Blk.new wr 27 (y7 x xa);replace hA:=hA.alloc (.cells (y7 x xa) 27);obtain⟨Q,qg⟩:∃ Q,wr.heap.size=Q:=⟨_,rfl⟩
  obtain⟨w6,my⟩:∃ w6,wr.alloc (.cells (y7 x xa) 27)=w6:=⟨_,rfl⟩
  rw[qg,my]at hQ;rw[my]at hA;have rp:=Hh (And.intro qg my);have oH:(j:Int)+1≤9223372036854775807:=by have:=Z6.out;omega
  obtain⟨wT,gk⟩:=jhF;clear qg my uF hc th uU yB hx;rw[sG];go_upto_region 6 with fail
  try rw[rp.out.1]
  try rw[rp.out.2]
  clear r0 r1 r2 r3 r4 r5 r6 sG rp;have q0:=hQ.cell 0 rfl;have m0:=hA.mem.cell 0 rfl
  by_cases iu:x.name=m.name
  ·obtain⟨f1,f2,f3⟩:=uV iu;have NO:=Hh (TW.out (.inl iu));clear iu hQ;exact jah
  obtain⟨f1,f2,f3⟩:=tR iu;have Gn:=Hh iu;clear iu;have q3:w6.cell? ⟨Q,3,none⟩=some (.slice xa.ca x.cred.length xa.cc):=hQ.cell 3 rfl;have m3:=hA.mem.cell 3 rfl;obtain⟨xc,Io⟩:∃ n,n=x.cred.length:=⟨_,rfl⟩
  obtain⟨xw,Ip⟩:∃ n,n=x.wrap.length:=⟨_,rfl⟩
  have E1:=Hh (fun wx (hx:Holds wx H)=>ju wx xa.ca b.ca x.cred m.cred xc lc xa.cc b.cc Io HL.out.2.1 (by have:=qS.out.small;omega) (by have h1:=HM.out.small;have h2:=HL.out.2.1;omega) (Src.of_row qS.out.cred.row hx) (Src.of_row HM.out.cred.row hx));have E2:=Hh (fun wx (hx:Holds wx H)=>ju wx xa.wa b.wa x.wrap m.wrap xw lw xa.wc b.wc Ip HL.out.2.2.2 (by have:=qS.out.small;omega) (by have h1:=HM.out.small;have h2:=HL.out.2.2.2;omega) (Src.of_row qS.out.wrap.row hx) (Src.of_row HM.out.wrap.row hx));rw[← Io]at q3;clear Io;go_wp2_with fail
  refine(E1.out _ (HH.out.below hA.below (Nat.le_refl _))).mono ?_
  rintro e w7 ⟨rfl,uq⟩
  replace hA:=hA.belowX uq;replace hQ:=hQ.below uq;clear uq q0 q3 m0 m3 E1 f1 f2 f3
  cases h1:decide (x.cred=m.cred) with
  | true =>
   have NO:=Hh (TW.out (.inr (.inl (of_decide_eq_true h1))));clear hQ h1;exact jah
  | false =>
  have Gq:=Hh (of_decide_eq_false h1);clear h1;have q5:w7.cell? ⟨Q,5,none⟩=some (.slice xa.wa x.wrap.length xa.wc):=hQ.cell 5 rfl;rw[← Ip]at q5;have m5:=hA.mem.cell 5 rfl;clear hQ Ip;go_wp2_with fail
  refine(E2.out _ (HH.out.below hA.below (Nat.le_refl _))).mono ?_
  rintro e w8 ⟨rfl,nC⟩
  replace hA:=hA.belowX nC;clear nC q5 m5 E2
  cases h2:decide (x.wrap=m.wrap) with
  | true =>
   have NO:=Hh (TW.out (.inr (.inr (of_decide_eq_true h2))));clear h2;exact jah
  | false =>
  have O0:Hid (¬ pT (g.members.take (j+1)) m):=by
   rw[Ul.out];rintro⟨o,ho,h⟩
   rcases List.mem_append.1 ho with ho | ho
   ·exact RH.out ⟨o,ho,h⟩
   rw[List.mem_singleton.1 ho]at h
   rcases h with h | h | h
   ·exact Gn.out h
   ·exact Gq.out h
   exact of_decide_eq_false h2 h
  clear h2;go_wp2_with fail
  go_roundw
  case rel=>exact⟨j+1,by go_num,(by have:=wT.out.2;exact(show j+1≤ml by omega)),O0,(by rw[← gk.out];exact hA)⟩
  case measure=>have:=wT.out.2;simp[intOf];omega
 have oP:Hid (¬ pT g.members m):=by have h:=RH.out;rw[List.take_of_length_le (by have:=HN.out.2.2;have:=HJ.out;omega)]at h;exact h
 have g3:=hA.grp.cell 3 rfl
 by_cases xO:ml=16
 ·have e1:((ml:Int)=16)=True:=eq_true (by omega);have e2:((ml:Int)==16)=true:=beq_iff_eq.2 (by omega);have NO:Hid (AdmP sP g m 16 vR []):=.full ARG.out oP.out (by have:=HN.out.2.2;omega);clear xO;exact jah
 have e1:((ml:Int)=16)=False:=eq_false (by omega);have e2:((ml:Int)==16)=false:=beq_eq_false_iff_ne.2 (by omega);have g2:=hA.grp.cell 2 rfl;have RD:Hid (ml<16):=by have:=Z6.out;rw[Hid];omega
 clear xO
 by_cases hx:g.number=65535
 ·have e3:(g.number=65535)=True:=eq_true hx;have e4:(g.number==65535)=true:=beq_iff_eq.2 hx;have NO:=jhI;clear hx;exact jah
 have e3:(g.number=65535)=False:=eq_false hx;have e4:(g.number==65535)=false:=beq_eq_false_iff_ne.2 hx;have HX:=Hh hx;have DV:Hid (∀ i:Nat,i<0→∃ o∈g.members,o.sender=[UInt8.ofNat i]):=fun i h=>absurd h (by omega)
 have Db:Hid (true=false→∀ o∈g.members,o.sender≠[UInt8.ofNat 0]):=fun h=>by cases h
 clear hx;go_upto_region 13 with fail
 clear g2 g3 e1 e2 e3 e4 zB;go_wp2_with fail
 go_loopw [9,10] (fun v9 v10 wr=>∃ (k:Nat) (u:Bool),v9=.int .i64 (k:Int)∧v10=.bool u∧Hid (k≤256)∧Hid (∀ i:Nat,i<k→∃ o∈g.members,o.sender=[UInt8.ofNat i])∧Hid (u=false→∀ o∈g.members,o.sender≠[UInt8.ofNat k])∧AM w (gpC a.ia il a.ic a.sa sl a.sc g.number a.ma ml a.mc) (yW m.name m.roles m.since b.sa ls b.sc b.ca lc b.cc b.ha lh b.hc b.wa lw b.wc) wr) (fun v9 v10 _=>300-(intOf v9).toNat+OZ v10)
 case atStart=>exact⟨0,true,rfl,rfl,Nat.zero_le _,DV,Db,hA⟩
 case round =>
 clear hA DV Db;obtain⟨k,u,rfl,rfl,Og,Oa,B0,hA⟩:=hrel
 cases u with
 | true =>
  have g3:=hA.grp.cell 3 rfl;go_upto_region 16 with fail
  go_wp2_with fail
  clear g3;obtain⟨W0,M8⟩:∃ W,W=wr:=⟨_,rfl⟩
  subst M8;go_loopw [10,70] (fun v10 v70 wx=>∃ (j:Nat) (u:Bool),v10=.bool u∧v70=.int .i64 (j:Int)∧Hid (j≤ml)∧Hid (u=true→k≤255∧∃ o∈g.members,o.sender=[UInt8.ofNat k])∧Hid (u=false→∀ i (h:i<g.members.length),i<j→g.members[i].sender≠[UInt8.ofNat k])∧AM w (gpC a.ia il a.ic a.sa sl a.sc g.number a.ma ml a.mc) (yW m.name m.roles m.since b.sa ls b.sc b.ca lc b.cc b.ha lh b.hc b.wa lw b.wc) wx) (fun _ v70 _=>(ml:Int).toNat+1-(intOf v70).toNat)
  case atStart=>exact⟨0,false,rfl,rfl,Nat.zero_le _,(fun h=>by cases h),(fun _ i h h0=>absurd h0 (by omega)),hA⟩
  case round =>
  clear hA;obtain⟨j,u,rfl,rfl,HJ,HU,E7,hA⟩:=hrel
  by_cases zB:(j:Int)<(ml:Int)
  ·have uU:j<g.members.length:=by rw[← HN.out.2.2];omega
   obtain⟨gb,go,sG,uF⟩:=HG.out.members.at_ (by omega);obtain⟨d,hd,hc⟩:=uF j uU;obtain⟨xa,hd,th⟩:=hd;subst hd;have wu:g.members[j].sender.length=1:=GD.out.unl.one _ (List.getElem_mem uU);obtain⟨x,lg⟩:∃ x,g.members[j]=x:=⟨_,rfl⟩
   rw[lg]at hc th wu;have Mo:Hid (x∈g.members∧∀ h:j<g.members.length,g.members[j]=x):=⟨by rw[← lg];exact List.getElem_mem uU,fun _=>lg⟩
   have yB:=HH.out.below hA.below (Nat.le_refl _);obtain⟨r0,r1,r2,r3,r4,r5,r6⟩:=jfy
   simp only[vQ,Nat.add_zero,Nat.zero_add,← Nat.add_assoc]at r0 r1 r2 r3 r4 r5 r6
   obtain⟨xb,xo,ZF,hx⟩:=th.sender.at_ (by omega);have x0:=yB.cell (hx 0 (by omega));obtain⟨xv,OX⟩:∃ v,x.sender[0]'(by omega)=v:=⟨_,rfl⟩
   rw[OX]at x0;have J1:Hid (x.sender=[xv]):=by rw[Hid,gG wu,OX]
   simp only[Nat.add_zero]at x0
   obtain⟨sn,oN⟩:∃ n,x.sender.length=n:=⟨_,rfl⟩
   rw[oN]at wu r1;rw[ZF]at r1;obtain⟨w6,my⟩:∃ w6,wr.alloc (.cells (yW x.name x.roles x.since (some ⟨xb,xo,none⟩) sn xa.sc xa.ca x.cred.length xa.cc xa.ha x.share.length xa.hc xa.wa x.wrap.length xa.wc) 27)=w6:=⟨_,rfl⟩
   have hQ:=jgQ;have x0:=nl x0 (zm wr (.cells (yW x.name x.roles x.since (some ⟨xb,xo,none⟩) sn xa.sc xa.ca x.cred.length xa.cc xa.ha x.share.length xa.hc xa.wa x.wrap.length xa.wc) 27));replace hA:=hA.alloc (.cells (yW x.name x.roles x.since (some ⟨xb,xo,none⟩) sn xa.sc xa.ca x.cred.length xa.cc xa.ha x.share.length xa.hc xa.wa x.wrap.length xa.wc) 27);obtain⟨Q,qg⟩:∃ Q,wr.heap.size=Q:=⟨_,rfl⟩
   rw[qg,my]at hQ;rw[my]at hA x0;have rp:=Hh (And.intro qg my);have oH:(j:Int)+1≤9223372036854775807:=by have:=Z6.out;omega
   obtain⟨wT,gk⟩:=jhF;have g1:(0:Int)<(sn:Int):=by omega
   clear qg my uF hc th uU yB hx ZF oN wu lg OX;rw[sG];go_upto_region 19 with fail
   try rw[rp.out.1]
   try rw[rp.out.2]
   clear r0 r1 r2 r3 r4 r5 r6 sG rp;have q1:=jh2
   cases u with
   | true =>
    clear hQ q1;go_wp2_with fail
    go_roundw
    case rel=>exact⟨j+1,true,rfl,by go_num,(by have:=wT.out.2;exact(show j+1≤ml by omega)),HU,(fun h=>by cases h),(by rw[← gk.out];exact hA)⟩
    case measure=>have:=wT.out.2;simp[intOf];omega
   | false =>
   clear hQ;have Rk:(xv.toNat:Int)≤255:=by have:=xv.toNat_lt;omega
   have E8:=Hh Rk;have kw:IntKind.i64.wrap (xv.toNat:Int)=(xv.toNat:Int):=IntWalk.i64_in _ (by omega)
   by_cases hb:(xv.toNat:Int)=(k:Int)
   ·have e1:((xv.toNat:Int)=(k:Int))=True:=eq_true hb;have e2:((xv.toNat:Int)==(k:Int))=true:=beq_iff_eq.2 hb;have Ml:Hid (k≤255∧∃ o∈g.members,o.sender=[UInt8.ofNat k]):=⟨by omega,x,Mo.out.1,by rw[J1.out,show k=xv.toNat by omega,UInt8.ofNat_toNat]⟩
    clear hb Rk;go_wp2_with fail
    go_roundw
    case rel=>exact⟨j+1,true,rfl,by go_num,(by have:=wT.out.2;exact(show j+1≤ml by omega)),(fun _=>Ml.out),(fun h=>by cases h),(by rw[← gk.out];exact hA)⟩
    case measure=>have:=wT.out.2;simp[intOf];omega
   have e1:((xv.toNat:Int)=(k:Int))=False:=eq_false hb;have e2:((xv.toNat:Int)==(k:Int))=false:=beq_eq_false_iff_ne.2 hb
   have Fh:Hid (∀ i (h:i<g.members.length),i<j+1→g.members[i].sender≠[UInt8.ofNat k]):=fun i h h1=>by
    by_cases e:i=j
    ·subst e;rw[Mo.out.2 h,J1.out]
     intro h2
     injection h2 with h2
     have h3:=congrArg UInt8.toNat h2;have h4:=Wb Oa.out Og.out;have:=GD.out.few;rw[UInt8.toNat_ofNat_of_lt' (by show k<256;omega)]at h3
     exact hb (by omega)
    exact E7.out rfl i h (by omega)
   clear hb Rk;go_wp2_with fail
   go_roundw
   case rel=>exact⟨j+1,false,rfl,by go_num,(by have:=wT.out.2;exact(show j+1≤ml by omega)),(fun h=>by cases h),(fun _=>Fh.out),(by rw[← gk.out];exact hA)⟩
   case measure=>have:=wT.out.2;simp[intOf];omega
  cases u with
  | true =>
   have Ml:=Hh (HU.out rfl)
   have Fe:Hid (∀ i:Nat,i<k+1→∃ o∈g.members,o.sender=[UInt8.ofNat i]):=fun i h=>by
    by_cases e:i=k
    ·rw[e];exact Ml.out.2
    exact Oa.out i (by omega)
   have kw:IntKind.i64.wrap ((k:Int)+1)=(k:Int)+1:=IntWalk.i64_in _ (by have:=Ml.out.1;omega);go_wp2_with fail
   go_roundw
   case rel=>exact⟨k+1,true,by go_num,rfl,(by have:=Ml.out.1;exact(show k+1≤256 by omega)),Fe,(fun h=>by cases h),hA⟩
   case measure=>have:=Ml.out.1;simp[intOf,OZ];omega
  | false =>
  have Ff:Hid (false=false→∀ o∈g.members,o.sender≠[UInt8.ofNat k]):=fun _ o ho=>by
   obtain⟨i,hi,rfl⟩:=List.getElem_of_mem ho
   exact E7.out rfl i hi (by have:=HN.out.2.2;have:=HJ.out;omega)
  go_wp2_with fail
  go_roundw
  case rel=>exact⟨k,false,rfl,rfl,Og,Oa,Ff,hA⟩
  case measure=>simp[intOf,OZ]
 | false =>
 have GT:Hid (sT k 0=UInt8.ofNat k∧k≤16):=by
  have h4:=Wb Oa.out Og.out;have h5:=GD.out.few
  refine⟨UInt8.toNat_inj.1 ?_,by omega⟩
  have h6:=fL k 0 1 rfl;rw[Int.ediv_one]at h6;injection h6 with _ h6
  rw[UInt8.toNat_ofNat_of_lt' (by show k<256;omega)]
  omega
 have GX:Hid (FreeP g.members (sT k 0)):=⟨fun o ho=>by rw[GT.out.1];exact B0.out rfl o ho,fun c hc=>by
  rw[GT.out.1,UInt8.toNat_ofNat_of_lt' (by show k<256;have:=GT.out.2;omega)]at hc;obtain⟨o,ho,e⟩:=Oa.out c.toNat hc
  exact⟨o,ho,by rw[e,UInt8.ofNat_toNat]⟩⟩
 have MA:=Sb k;have DX:=Hh MA;clear MA;obtain⟨g0,g1,g2,g3⟩:=jgA;go_upto_region 23 with fail
 go_wp2_with fail
 refine(C.out _ (HH.out.below hA.below (Nat.le_refl _))).mono ?_
 rintro e w3 ⟨v,rfl,je,xy⟩
 obtain⟨VA,vc,rfl,vJ⟩:=je.form;have hO:=je.more (base':=w.heap.size+3) hA.res.lt;replace hA:=hA.belowX xy;rw[← HN.out.1,← HN.out.2.1,← HN.out.2.2];rw[← HN.out.2.2]at hO;clear vJ je xy g0 g1 g2 g3 C
 have hD:DR w H (yW m.name m.roles m.since b.sa ls b.sc b.ca lc b.cc b.ha lh b.hc b.wa lw b.wc) (gpC a.ia il a.ic a.sa sl a.sc g.number VA ml vc) w3.heap.size (.slice VA ml vc) g.members H (w3.alloc (.cells (gpC a.ia il a.ic a.sa sl a.sc g.number VA ml vc) 25)) :=
  ⟨(Grows.of_below HH.out hA.below).alloc _,hA.mem.alloc _,hA.res.alloc _,Blk.new _ _ _,hA.res.lt,HH.out.none_of_ge (by omega),HH.out.none_of_ge (by omega),HH.out.none_of_ge hA.below.size,hO.alloc _,fun e=>by have:=(hO.lt _ e).2;omega,fun g hg=>HH.out.none_of_ge (by have:=(hO.lt g hg).1;omega)⟩
 obtain⟨P,uT⟩:∃ P,w3.heap.size=P:=⟨_,rfl⟩
 obtain⟨w4,kJ⟩:∃ w4,w3.alloc (.cells (gpC a.ia il a.ic a.sa sl a.sc g.number VA ml vc) 25)=w4:=⟨_,rfl⟩
 rw[uT,kJ]at hD;have HW:=Hh (And.intro uT kJ);have kw:=jfV;clear uT kJ hA hO;go_upto_region 24 with fail
 try rw[HW.out.1]
 try rw[HW.out.2]
 clear HW;have p2:=hD.var.cell 2 rfl;go_wp2_with (with_reducible refine zx ?_)
 refine zu rfl _ _ _ rfl rfl P 2 (.int .i64 (g.number+1)) rfl rfl _ _ hD.var (by kernel_rfl) (by simp) rfl fun w5 hP5 te=>?_
 replace hD:=hD.setP (pc':=gpC a.ia il a.ic a.sa sl a.sc (g.number+1) VA ml vc) hP5 te;clear p2 hP5 te kw;obtain⟨num,rj⟩:∃ num,g.number+1=num:=⟨_,rfl⟩
 rw[rj]at hD⊢;have eR:Hid (num=g.number+1∧-9223372036854775808≤num∧num≤9223372036854775807):=by have h1:=GD.out.num0;have h2:=GD.out.num1;rw[Hid];omega
 clear rj;go_upto_region 25 with fail
 go_cut [] (fun wx=>∃ (L:Nat) (H1:Snap),DR w H (yW m.name m.roles num (some ⟨L,0,none⟩) 1 1 b.ca lc b.cc b.ha lh b.hc b.wa lw b.wc) (gpC a.ia il a.ic a.sa sl a.sc num VA ml vc) P (.slice VA ml vc) g.members H1 wx∧IsBytes H1 (some ⟨L,0,none⟩) 1 [sT k 0])
 case first =>
  replace hD:=hD.drew
  refine zj 9 (fun wx=>wx.cell? ⟨P,2,none⟩=some (.int .i64 num)) (by kernel_rfl) (hD.var.cell 2 rfl) (fun zy=>?_)
  refine TkS 0 rfl zy ?_
  refine TkS 1 rfl zy ?_
  refine TkS 3 rfl zy ?_
  refine TkS 4 rfl zy ?_
  refine To 2 rfl fun K hK=>?_
  go_simp
  obtain⟨H2,zM,sH,vJ⟩:=Fresh.snapB hD.grows.holds (Fresh.lit _ [sT k 0] #[.int .u8 ((k:Int)%256)] 1 rfl (by simp) DX.out);have hD:=hD.grow zM;clear vJ zM
  refine Ko hK ?_ fun zy=>?_
  ·exact hD.var.cell 2 rfl
  clear hK K
  refine TkS 5 rfl zy ?_
  refine To 6 rfl fun K hK=>?_
  refine yw _ _ _ rfl (w.heap.size+1) 1 _ rfl rfl _ _ hD.mem (by kernel_rfl) (by simp) rfl fun w6 nX tg=>?_
  have hD:=hD.setM nX tg;clear nX tg;go_simp
  refine Ko hK ?_ fun zy=>?_
  ·exact hD.var.cell 2 rfl
  clear hK K
  refine TkS 7 rfl zy ?_
  refine To 8 rfl fun K hK=>?_
  refine yw _ _ _ rfl (w.heap.size+1) 6 (.int .i64 num) rfl rfl _ _ hD.mem (by kernel_rfl) (by simp) rfl fun w8 hB8 hg8=>?_
  have hD:=hD.setM hB8 hg8;clear hB8 hg8;go_simp
  refine Ko hK ?_ fun zy=>?_
  ·exact hD.var.cell 2 rfl
  clear hK K
  refine Wd ?_
  clear zy;go_wp2_with fail
  go_meet
  exact⟨_,_,hD,sH⟩
 case rest =>
 clear hD;obtain⟨L,H1,hD,sZ⟩:=hcut;rw[HL.out.2.1,HL.out.2.2.1,HL.out.2.2.2]at hD;obtain⟨m',ZD⟩:∃ m':Mb,m'={ m with sender:=[sT k 0],since:=num }:=⟨_,rfl⟩
 obtain⟨mb',bL⟩:∃ mb':MAd,mb'={ b with sa:=some ⟨L,0,none⟩,sc:=1 }:=⟨_,rfl⟩
 replace hD:DR w H (y7 m' mb') (gpC a.ia il a.ic a.sa sl a.sc num VA ml vc) P (.slice VA ml vc) g.members H1 wc:=by rw[ZD,bL];exact hD
 have qS:Hid (MemA H1 m' mb'):=by
  rw[ZD,bL];have xO:=hD.grows.le;have h:=HM.out
  exact⟨h.name,sZ,h.cred.mono xO,h.share.mono xO,h.wrap.mono xO,by show [sT k 0].length≤1099511;simp,h.small.2⟩
 have Oj:Hid (m'={ m with sender:=[sT k 0],since:=g.number+1 }):=by rw[Hid,ZD,eR.out.1]
 clear sZ ZD bL;have q0:=hD.mem.cell 0 rfl;have q1:=hD.mem.cell 1 rfl;have q2:=hD.mem.cell 2 rfl;have q3:=hD.mem.cell 3 rfl;have q4:=hD.mem.cell 4 rfl;have q5:=hD.mem.cell 5 rfl;have q6:=hD.mem.cell 6 rfl;have p3:=hD.var.cell 3 rfl;go_wp2_with (at_builtin;refine yq ?_)
 unfold z8
 replace hD:=hD.alloc (.cells (y7 m' mb') 27)
 refine OwnX.append rfl (.tmp 102) (.tmp 104) 23 rfl Tryz.underlying23 rfl (by omega) rH rfl hD.own _ 1 _ (y7 m' mb').toList [m'] rfl rfl (RowC.one ⟨mb',rfl,qS.out⟩) (Src.new _ _ _ _ rfl _ rfl) (by have h2:=Z6.out;have h3:=HN.out.2.2;simp only[List.length_singleton];omega) hD.base fun v8 w8 qT hg8 hat8=>?_
 replace hD:=hD.app qT hg8 hat8;obtain⟨A8,c8,rfl,vJ⟩:=qT.form;obtain⟨l8,f7⟩:∃ l8,g.members++[m']=l8:=⟨_,rfl⟩
 have UM:Hid (l8.length≤17∧l8=g.members++[m']):=by rw[← f7];have h2:=Z6.out;have h3:=HN.out.2.2;rw[Hid,List.length_append,List.length_singleton];exact⟨by omega,rfl⟩
 rw[f7]at hD⊢;obtain⟨m8,f9⟩:∃ n,l8.length=n:=⟨_,rfl⟩
 have Ll:=Hh f9;rw[f9]at hD⊢;clear qT hg8 hat8 vJ f7 f9 q0 q1 q2 q3 q4 q5 q6 p3;go_wp2_with (with_reducible refine zx ?_)
 refine zu rfl _ _ _ rfl rfl P 3 (.slice A8 m8 c8) rfl rfl _ _ hD.var (by kernel_rfl) (by simp) rfl fun w9 hP9 yO=>?_
 replace hD:=hD.setP (pc':=gpC a.ia il a.ic a.sa sl a.sc num A8 m8 c8) hP9 yO;clear hP9 yO;obtain⟨H9,vy,qb,eE,ZA,fA⟩:=hD.freeze;obtain⟨GM,sK,bJ,vJ⟩:=Fresh.snapB vy.holds (Fresh.lit w9 [sT k 0] #[.int .u8 ((k:Int)%256)] 1 rfl (by simp) DX.out);have hT:=hD.res.below sK.below;have pJ:=sK.none fA hD.res.lt;have hG:=vy.trans sK;have bT:=Hh (ZA.mono sK.le);have bF:=Hh bJ;have p0:=hD.var.cell 0 rfl;have p1:=hD.var.cell 1 rfl;have p2:=hD.var.cell 2 rfl;have p3:=hD.var.cell 3 rfl;clear hD vJ bJ eE ZA fA vy sK qb;go_wp2_with (with_reducible refine zx ?_)
 refine zv rfl _ _ _ rfl rfl _ _ rfl rfl _ _ hT zp rfl (yG _ _ _ _ rfl rfl rfl rfl) fun wz kG zS=>?_
 have ey:=hG.grownOwn pJ (by omega) zS;clear hT hG zS p0 p1 p2 p3;go_wp2_with fail
 refine yh rfl rfl kG rfl rfl zp rfl ?_
 have Lt:Hid (cZ g m (sT k 0)=⟨g.id,g.secret,num,l8⟩):=by rw[Hid,cZ,UM.out.2,Oj.out,eR.out.1]
 exact⟨cZ g m (sT k 0),⟨a.ia,a.ic,a.sa,a.sc,A8,c8⟩,GM,_,1,[sT k 0],0,by rw[Lt.out,HN.out.1,HN.out.2.1,← Ll.out];rfl,ey,by rw[Lt.out];exact⟨HG.out.id.mono ey.le,HG.out.secret.mono ey.le,eR.out.2,bT.out,HG.out.small.1,HG.out.small.2.1,by show l8.length≤1099511;have:=UM.out.1;omega⟩,bF.out,.ok _ ARG.out oP.out (by have:=HN.out.2.2;have:=RD.out;omega) HX.out GX.out⟩
theorem qh {sP:Mb→Bool}{H:Snap}(hS:SoundIs sP H) {A B:Option Addr}{ca cb:Nat}{x y:List UInt8}{n m:Nat}(hn:n=x.length) (hm:m=y.length) (hx:x.length≤1099511) (hy:y.length≤1099511) (w:World) (hH:Holds w H) (hA:Src w A (x.map zT)) (hB:Src w B (y.map zT)) :
  Calls Tryz.prog 22 #[.slice A n ca,.slice B m cb] w (Ta sP w H x y):=by
 have HN:=Hh (And.intro hn (And.intro hm (And.intro hx hy)));have HH:=Hh hH;have HA:=Hh hA;have HB:=Hh hB;have HS:=Hh hS;have hT:=Blk.new w 25 yf;have hb:=zm w (.cells yf 25);clear hn hm hx hy hH hA hB hS;go_enter Tryz.func22,Tryz.ntmps22
 go_wp2_with fail
 refine(vD (c:=ca) HN.out.1 (by have:=HN.out.2.2.1;omega) _ (HA.out.below hb)).mono ?_
 rintro e w2 ⟨r2,rfl,iq⟩
 obtain⟨A2,d2,rfl,Ue⟩:=iq.own.form;rw[← HN.out.1];obtain⟨H2,zM,sH,qf⟩:=Fresh.snapB (HH.out.below hb (Nat.le_refl _)) iq;have Ro:=Hh sH;replace hT:=hT.below zM.below;obtain⟨rY,zC,hG⟩:=jht;clear sH iq hb zM Ue qf;go_wp2_with fail
 refine(vD (c:=cb) HN.out.2.1 (by have:=HN.out.2.2.2;omega) _ (HB.out.below zC)).mono ?_
 rintro e w3 ⟨r3,rfl,XC⟩
 obtain⟨A3,d3,rfl,IM⟩:=XC.own.form;rw[← HN.out.2.1];obtain⟨H3,yY,Rb,lZ⟩:=Fresh.snapB hG.holds XC;have HI:Hid (GpA H3 (pY x y) ⟨A2,d2,A3,d3,none,0⟩):=⟨Ro.out.mono yY.le,Rb,by show(-9223372036854775808:Int)≤0∧(0:Int)≤9223372036854775807;omega,YR _,HN.out.2.2.1,HN.out.2.2.2,by show(0:Nat)≤_;omega⟩
 have Yw:H3 w.heap.size=none:=yY.none rY hT.lt;replace hT:=hT.below yY.below;replace hG:=hG.trans yY;have sk:=Hh hG.le
 have V:Hid (∀ wx,Holds wx H3→Calls Tryz.prog 11 #[.agg (gpC A2 n d2 A3 m d3 0 none 0 0)] wx (wk sP wx (pY x y))):=fun wx hx=>by
  have h:=tQ (HS.out.mono sk.out) HI.out wx hx
  have e:gpQ (pY x y) ⟨A2,d2,A3,d3,none,0⟩=gpC A2 n d2 A3 m d3 0 none 0 0:=by
   rw[HN.out.1,HN.out.2.1];rfl
  rw[e]at h
  exact h
 clear Rb XC yY rY zC IM lZ Ro;have hP:=Blk.new w3 25 (gpC A2 n d2 A3 m d3 0 none 0 0);have pw:=hT.lt;replace hT:=hT.alloc (.cells (gpC A2 n d2 A3 m d3 0 none 0 0) 25);replace hG:=hG.alloc (.cells (gpC A2 n d2 A3 m d3 0 none 0 0) 25);obtain⟨P,uT⟩:∃ P,w3.heap.size=P:=⟨_,rfl⟩
 obtain⟨w4,kJ⟩:∃ w4,w3.alloc (.cells (gpC A2 n d2 A3 m d3 0 none 0 0) 25)=w4:=⟨_,rfl⟩
 rw[uT,kJ]at hP;rw[kJ]at hT hG;have HW:=Hh (And.intro uT kJ);clear uT kJ pw;go_upto_region 2 with fail
 try rw[HW.out.1]
 try rw[HW.out.2]
 clear HW;have p0:=hP.cell 0 rfl;have p1:=hP.cell 1 rfl;have p2:=hP.cell 2 rfl;have p3:=hP.cell 3 rfl;go_wp2_with fail
 refine(V.out _ hG.holds).mono ?_
 rintro e w5 ⟨b5,rfl,FU,qe⟩
 have HV:=Hh FU;replace hT:=hT.below qe;replace hP:=hP.below qe;replace hG:=hG.below_ qe;clear qe FU V p0 p1 p2 p3
 cases b5 with
 | false =>
  go_wp2_with (with_reducible refine zx ?_)
  refine zv rfl _ _ _ rfl rfl _ _ rfl rfl _ _ hT zp rfl (yG _ _ _ _ rfl rfl rfl rfl) fun w9 xr yO=>?_
  have vy:=hG.grownOwn Yw (Nat.le_refl _) yO;clear hT hG yO hP;go_wp2_with fail
  refine zw rfl rfl xr rfl rfl zp rfl ?_
  exact⟨vR,⟨none,0,none,0,none,0⟩,H3,1,rfl,vy,oB H3,.arg fun h=>by have h2:=HV.out.2 h;cases h2⟩
 | true =>
 simp only[Bool.not_true]
 have p0:=hP.cell 0 rfl;have p1:=hP.cell 1 rfl;have p2:=hP.cell 2 rfl;have p3:=hP.cell 3 rfl;go_wp2_with (with_reducible refine zx ?_)
 refine zv rfl _ _ _ rfl rfl _ _ rfl rfl _ _ hT zp rfl (yG _ _ _ _ rfl rfl rfl rfl) fun w9 xr yO=>?_
 have vy:=hG.grownOwn Yw (Nat.le_refl _) yO;clear hT hG yO hP p0 p1 p2 p3;go_wp2_with fail
 refine zw rfl rfl xr rfl rfl zp rfl ?_
 exact⟨pY x y,⟨A2,d2,A3,d3,none,0⟩,H3,0,by rw[HN.out.1,HN.out.2.1];rfl,vy,HI.out,.ok (HV.out.1 (by trivial))⟩
theorem Grows.trans_butM {w w' w'':World}{H H' H'':Snap}{g:Nat}(h:Grows w H w' H') (k:GrowsBut w' H' w'' H'' g) (hg:w.heap.size≤g):Grows w H w'' H'':=by
 exact jbS
structure PlainP (sP:Mb→Bool) (roles:Int) (m:Mb):Prop where
 wrap:m.wrap.length=16
 sound:1≤roles→roles≤7→sP m=true
def dK (sP:Mb→Bool) (roles:Int) (w:World) (H:Snap) (e:Ending) (w':World):Prop:=∃ m a H',e=.returned (.agg (y7 m a))∧Grows w H w' H'∧MemA H' m a∧PlainP sP roles m
def nF (sP:Mb→Bool) (H:Snap):Prop:=∀ (K:Snap),H.le K→∀ (n roles:Int) (w:World),Holds w K→Calls Tryz.prog 13 #[.int .i64 n,.int .i64 roles] w (dK sP roles w K)
def ft:Prop:=∀ (n:Int) (w:World),Calls Tryz.prog 25 #[.int .i64 n] w fun e w'=>∃ A c l,e=.returned (.slice A 32 c)∧l.length=32∧Fresh w l (.slice A 32 c) w'
theorem AdmP.first {sP:Mb→Bool}{id secret:List UInt8}(hv:ValidG sP (pY id secret)) {m:Mb}(hm:PlainP sP 3 m) {q:Int}{x:Gp}{s:List UInt8}(h:AdmP sP (pY id secret) m q x s):q=0∧s=[0]∧x.number=1∧x.members.length=1:=by
 have ha:bE sP (pY id secret) m:=⟨hv,hm.sound (by omega) (by omega),hm.wrap⟩
 have hc:¬ pT (pY id secret).members m:=by rintro⟨o,ho,_⟩;cases ho
 cases h with
 | arg h=>exact absurd ha h
 | twice _ h=>exact absurd h hc
 | full _ _ h=>simp[pY]at h
 | limit _ _ _ h=>simp[pY]at h
 | ok n _ _ _ _ h =>
 have hn:n=0:=by
  by_cases e:n=0
  ·exact e
  have hp:0<n.toNat:=Nat.pos_of_ne_zero fun h0=>e (UInt8.toNat_inj.1 h0)
  obtain⟨m,hm,_⟩:=h.least 0 hp
  cases hm
 subst hn
 exact⟨rfl,rfl,rfl,rfl⟩
theorem fD {sP:Mb→Bool}{H:Snap}(hS:SoundIs sP H) (hP:nF sP H) (hSd:ft) (w:World) (hH:Holds w H) :
  Calls Tryz.prog 7 #[] w fun e w'=>e=.returned (.bool true)∧Below w.heap.size w w':=by
 obtain⟨H1,xg,sZ,rX⟩:=Fresh.snapB hH (Fresh.lit w [170] #[.int .u8 170] 1 rfl (by simp) rfl);have Ga:=Hh sZ;have HS:=Hh hS;have HP:=Hh hP;have SD:=Hh (hSd 1);obtain⟨w1,oS⟩:∃ w1,w.alloc (.cells #[.int .u8 170] 5)=w1:=⟨_,rfl⟩
 rw[oS]at xg;clear hS hP hSd sZ rX hH;go_enter Tryz.func7,Tryz.ntmps7
 go_wp2_with fail
 try rw[oS]
 clear oS
 refine(SD.out w1).mono ?_
 rintro e w2 ⟨A2,c2,l2,rfl,lT,iq⟩
 obtain⟨H2,zM,sH,qf⟩:=Fresh.snapB xg.holds iq;have Ro:=Hh sH;have X6:=Hh lT;have hG:=xg.trans zM;have CR:=Hh (qh (HS.out.mono hG.le) (ca:=1) (cb:=c2) (x:=[170]) (y:=l2) (n:=1) (m:=32) rfl lT.symm (by simp) (by omega) w2 hG.holds (Src.of_row (Ga.out.mono zM.le).row hG.holds) (Src.of_row sH.row hG.holds));clear iq qf sH lT xg zM SD;go_wp2_with fail
 refine CR.out.mono ?_
 rintro e w3 ⟨g,a,H3,q,rfl,yY,sG,mw⟩
 clear CR;have HV:Hid (ValidG sP (pY [170] l2)):=(mB _ _ _).2 ⟨by simp,by simp,X6.out⟩
 have D6:q=0∧g=pY [170] l2:=by
  cases mw with
  | arg h=>exact absurd HV.out h
  | ok _=>exact⟨rfl,rfl⟩
 obtain⟨rfl,rfl⟩:=D6
 have hq:gpQ (pY [170] l2) a=gpC a.ia 1 a.ic a.sa 32 a.sc 0 a.ma 0 a.mc:=by
  show gpC a.ia 1 a.ic a.sa l2.length a.sc 0 a.ma 0 a.mc=_
  rw[X6.out]
 have AD:Hid (∀ (K:Snap) (m:Mb) (ma:MAd) (wx:World),H.le K→H3.le K→MemA K m ma→Holds wx K→Calls Tryz.prog 14 #[.agg (gpC a.ia 1 a.ic a.sa 32 a.sc 0 a.ma 0 a.mc),.agg (y7 m ma)] wx (rO sP wx K (pY [170] l2) m)):=fun K m ma wx h1 h2 h3 h4=>by
  rw[← hq]
  exact mY (HS.out.mono h1) (sG.mono h2) h3 wx h4
 rw[hq];replace hG:=hG.trans yY;have gn:=Blk.new w3 25 (gpC a.ia 1 a.ic a.sa 32 a.sc 0 a.ma 0 a.mc);have bS:=hG.holds.none_of_ge (Nat.le_refl _);have Gm:=Hh hG.below.size;replace hG:=hG.alloc (.cells (gpC a.ia 1 a.ic a.sa 32 a.sc 0 a.ma 0 a.mc) 25);obtain⟨P,uT⟩:∃ P,w3.heap.size=P:=⟨_,rfl⟩
 obtain⟨w4,kJ⟩:∃ w4,w3.alloc (.cells (gpC a.ia 1 a.ic a.sa 32 a.sc 0 a.ma 0 a.mc) 25)=w4:=⟨_,rfl⟩
 rw[uT]at bS Gm;rw[uT,kJ]at gn;rw[kJ]at hG;have HW:=Hh (And.intro uT kJ);clear uT kJ hq sG mw yY;go_upto_region 2 with fail
 try rw[HW.out.1]
 try rw[HW.out.2]
 clear HW;replace hG:=hG.drew;replace gn:=gn.below (Below.refl _ _).drew;have xO:=Snap.le.refl H3
 refine zX 7 (fun wx=>wx.cell? ⟨P,0,none⟩=some (.slice a.ia 1 a.ic)∧wx.cell? ⟨P,1,none⟩=some (.slice a.sa 32 a.sc)∧wx.cell? ⟨P,2,none⟩=some (.int .i64 0)∧wx.cell? ⟨P,3,none⟩=some (.slice a.ma 0 a.mc)) (by kernel_rfl) (⟨gn.cell 0 rfl,gn.cell 1 rfl,gn.cell 2 rfl,gn.cell 3 rfl⟩) (fun zy=>?_)
 refine Zk 0 rfl zy ?_
 refine Zo 1 rfl fun K hK=>?_
 go_simp
 refine(HP.out _ hG.le 1 3 _ hG.holds).mono ?_
 rintro e w5 ⟨m,ma,H5,rfl,xT,P9,i6⟩
 have Iw:=Hh (And.intro P9 i6);have bS:=xT.none bS gn.lt;have gn:=gn.below xT.below;have hG:=hG.trans xT;have xO:=xO.trans xT.le;clear xT P9 i6
 refine Ko hK ?_ fun zy=>?_
 ·exact jdM
 clear hK K
 refine Zo 2 rfl fun K hK=>?_
 go_simp
 refine(AD.out _ m ma _ hG.le xO Iw.out.1 hG.holds).mono ?_
 rintro e w6 ⟨x,xa,H6,A6,c6,s6,q6,rfl,xW,Jm,NN,Et⟩
 obtain⟨rfl,rfl,FY,Q3⟩:=Et.first HV.out Iw.out.2;obtain⟨sb,so,rfl,uF⟩:=NN.at_ (by simp);have bS:=xW.none bS gn.lt;have gn:=gn.below xW.below;have Au:=Hh (uF 0 (by simp));have hG:=hG.trans xW;have HX:=Hh (And.intro FY Q3);clear xW uF Et NN FY Q3 Jm
 refine Ko hK ?_ fun zy=>?_
 ·exact jdM
 clear hK K
 refine Zk 3 rfl zy ?_
 refine Zk 4 rfl zy ?_
 refine ZkT 5 rfl (fun _=>zy) ?_
 refine ZkT 6 rfl (fun _=>zy) ?_
 refine Zo 7 rfl fun K hK=>?_
 refine zD _ _ _ rfl _ _ rfl rfl _ _ gn zp rfl (yG _ _ _ _ rfl rfl rfl rfl) fun w7 Pl yQ=>?_
 have uq:=hG.below.grown yQ hG.below.size (by rintro q ⟨⟩;exact Gm.out);have xp:=hG.grownOwn bS Gm.out yQ;go_simp
 refine Kz hK ?_
 clear hK K
 refine ZkT 8 rfl (fun h=>absurd h (by decide)) ?_
 refine ZkT 9 rfl (fun h=>absurd h (by decide)) ?_
 refine WaysZ.done (by kernel_rfl) ?_
 clear zy gn;have p2:w7.cell? ⟨P,2,none⟩=some (.int .i64 x.number):=Pl.cell 2 rfl;have p3:w7.cell? ⟨P,3,none⟩=some (.slice xa.ma x.members.length xa.mc):=Pl.cell 3 rfl;rw[HX.out.1]at p2;rw[HX.out.2]at p3;have x0:w7.cell? ⟨sb,so,none⟩=some (.int .u8 0):=xp.holds.cell Au.out;clear Pl xp yQ;go_wp2_with fail
 go_ret
 exact⟨rfl,uq⟩
end Go.Proofs.YtgaoknihklmakabGreatDoor
