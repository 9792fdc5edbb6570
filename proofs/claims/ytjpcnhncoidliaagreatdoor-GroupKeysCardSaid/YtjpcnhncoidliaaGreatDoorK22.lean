/- squeezed. Walks: the deck's bytes, as a row  -/
import Derived.Test.YtjpcnhncoidliaaGreatDoorK21
import Derived.Test.YtjpcnhncoidliaaGreatDoorK20
import Derived.Lib.SlBytesConst
set_option linter.unusedVariables false
set_option linter.unusedSimpArgs false
set_option maxRecDepth 100000
set_option maxHeartbeats 12800000
namespace Go.Proofs.YtjpcnhncoidliaaGreatDoor
open Go.RowKit
theorem Zz {H:Snap}{g:Nat}(w:World) (hD:DeckIn w g H) (n:Int) (hn:0≤n) (oQ:n≤1048576) :
  Calls Tryz.prog 13 #[.pointer (some ⟨g,0,none⟩),.int .i64 n] w fun e w' =>
∃ A c n' l,e=.returned (.slice A n' c)∧n'=l.length∧(l.length:Int)≤n∧OwnB w' w.heap.size (.slice A n' c) l∧(∀ q,(Value.slice A n' c).ownBlock=some q→H q=none)∧Dealt w H w' H g:=by
 have NX:=Hh (vY w hD (n+1) (by omega) (by omega));have K0:IntKind.i64.wrap (n+1)=n+1:=IntWalk.i64_in _ (by omega);have yS:=hD.deck.lt;have HN:=Hh (And.intro hn oQ);have HD:=Hh hD;clear hn oQ hD;go_enter Tryz.func13,Tryz.ntmps13
 go_wp2_with fail
 refine NX.out.mono ?_
 rintro e w1 ⟨r,rfl,hr,Nr⟩
 have yp:=OwnB.nil w1 w.heap.size;go_wp2_with fail
 go_loopw [5,6] (fun v5 v6 wr=>∃ (k:Nat) (VA:Option Addr) (vc vn:Nat) (l:List UInt8),v6=.int .i64 (k:Int)∧v5=.slice VA vn vc∧OwnB wr w.heap.size (.slice VA vn vc) l∧vn=l.length∧(l.length:Int)+k≤n∧Dealt w H wr H g∧(∀ q,(Value.slice VA vn vc).ownBlock=some q→H q=none)) (fun _ v6 _=>(intOf v6).toNat)
 case atStart=>exact⟨r,_,_,_,_,rfl,rfl,yp,rfl,by simp;omega,Nr,by intro q hq;simp[Value.ownBlock]at hq⟩
 case round =>
 obtain⟨k,VA,vc,vn,l,rfl,rfl,vf,mg,VD,qD,lY⟩:=hrel;have HV:=Hh mg;have Rz:=Hh VD;clear mg VD
 by_cases yy:(0:Int)<(k:Int)
 ·have NX:=Hh (vY wr qD.deck 256 (by omega) (by omega));go_wp2_with fail
  refine NX.out.mono ?_
  rintro e w2 ⟨q,rfl,hq,us⟩
  have hd:=qD.trans us;have tl:=vf.dealt us yS;have K1:IntKind.u8.wrap (q:Int)=(q:Int):=IntWalk.u8_in _ (by omega);have qC:=tl.alloc (.cells #[.int .u8 (q:Int)] 5);have wU:=hd.alloc (.cells #[.int .u8 (q:Int)] 5)
  have HC:Hid ((#[.int .u8 (q:Int)]:Array Value).toList=[u8 q].map zg):=by
   simp only[Hid,List.map_cons,List.map_nil,vk]
   congr 2
   omega
  have pX:(-9223372036854775808:Int)≤(k:Int)-1∧(k:Int)-1≤9223372036854775807:=by have:=Rz.out;have:=HN.out;omega
  clear hq NX qD vf us tl hd;go_wp2_with (at_builtin;refine zf ?_)
  unfold zU
  obtain rfl:=HV.out
  refine zv rfl (.tmp 15) (.tmp 19) rfl w.heap.size (.slice VA l.length vc) _ rfl qC _ 1 _ [u8 q] rfl rfl (Src.new _ _ _ _ rfl _ HC.out) (by have:=Rz.out;have:=HN.out;simp;omega) wU.size fun v' w7 wY hg7 hat7=>?_
  obtain⟨VA',vc',rfl,_⟩:=wY.form;have xp:=wU.grownRow lY (fun q hq=>(qC.lt q hq).1) yS hg7
  have fN:∀ q',(Value.slice VA' (l++[u8 q]).length vc').ownBlock=some q'→H q'=none:=fun q' cH=>by
   rcases hat7 with h | ⟨g',h1,h2⟩
   ·exact lY q' (by rw[← h,cH])
   rw[cH]at h1;injection h1 with h1
   subst h1
   exact wU.holds.none_of_ge h2
  have Xw:(l++[u8 q]).length=l.length+1:=by simp
  rw[Xw]at wY fN;rw[Xw];clear Xw;have kM:IntKind.i64.wrap ((k:Int)-1)=(k:Int)-1:=IntWalk.i64_in _ pX;clear qC hg7 hat7 wU pX;go_wp2_with fail
  go_roundw
  case rel=>exact⟨k-1,VA',vc',_,_,by rw[show((k-1:Nat):Int)=(k:Int)-1 by omega],rfl,wY,by simp,by have:=Rz.out;simp;omega,xp,fN⟩
  case measure=>simp[intOf];omega
 go_wp2_with fail
 go_ret
 exact⟨VA,vc,vn,rfl,l,HV.out,by have:=Rz.out;omega,vf,lY,qD⟩
abbrev jT:Array Value:=#[.int .i64 0,.int .i64 0,.int .i64 0,.slice none 0 0,.slice none 0 0,.slice none 0 0,.slice none 0 0]
theorem tU:(Tryz.prog.info? 88).map (·.size)=some 7:=by kernel_rfl
theorem X9 (a b c d e f g:Value) (ha:a.oneCell'=true) (hb:b.oneCell'=true) (hc:c.oneCell'=true) (hd:d.oneCell'=true) (he:e.oneCell'=true) (hf:f.oneCell'=true) (hg:g.oneCell'=true) :
  (#[a,b,c,d,e,f,g]:Array Value).all (·.oneCell')=true:=by simp[ha,hb,hc,hd,he,hf,hg]
structure KM (W0:World) (H:Snap) (g R K:Nat) (kc:Array Value) (w:World) (Hr:Snap):Prop where
 dealt:Dealt W0 H w Hr g
 res:Blk w R 88 jT
 key:Blk w K 88 kc
 hR:Hr R=none
 hK:Hr K=none
 neRK:R≠K
 gW:g<W0.heap.size
 wR:W0.heap.size≤R
 wK:W0.heap.size≤K
section
variable {W0 w w':World} {H Hr Hs:Snap} {g R K:Nat} {kc kc':Array Value}
end
def UO:Value→Bool
 | .int .i64 n=>decide (0≤n)&&decide (n≤1099511627775)
 | _=>false
theorem YO {v:Value}(h:UO v=true):∃ n,v=.int .i64 n∧0≤n∧n≤1099511627775:=by
 unfold UO at h
 split at h
 ·rw[Bool.and_eq_true,decide_eq_true_eq,decide_eq_true_eq]at h
  exact⟨_,rfl,h.1,h.2⟩
 cases h
abbrev MR:Array Value:=#[.int .i64 0,.int .i64 1,.int .i64 5,.int .i64 255,.int .i64 256,.int .i64 65535,.int .i64 16777216,.int .i64 1099511627775,.int .i64 1099511627774,.int .i64 4294967296]
theorem RC {H:Snap}{g:Nat}(w:World) (hD:DeckIn w g H) :
  Calls Tryz.prog 14 #[.pointer (some ⟨g,0,none⟩)] w fun e w'=>∃ n:Int,e=.returned (.int .i64 n)∧0≤n∧n≤1099511627775∧Dealt w H w' H g:=by
 have yS:=hD.deck.lt;have hB:=Blk.new w 3 MR;have Nr:=(Dealt.refl hD).alloc (.cells MR 3);have xq:g≠w.heap.size:=by omega
 have NX:=Hh (vY _ Nr.deck 10 (by omega) (by omega));clear hD yS;go_enter Tryz.func14,Tryz.ntmps14
 go_wp2_with fail
 refine NX.out.mono ?_
 rintro e w4 ⟨j,rfl,hj,sO⟩
 have fJ:=hB.dealt sO (Ne.symm xq);obtain⟨v,hc,hP⟩:=fJ.pick UO (by kernel_rfl) j (by simp;omega);obtain⟨q,rfl,hq⟩:=YO hP;have V4:=Nr.trans sO;have HQ:=Hh hq;clear hB fJ hP sO NX hq xq;go_wp2_with fail
 go_ret
 exact⟨q,rfl,HQ.out.1,HQ.out.2,V4⟩
def uE (s:ByteArray):Bool:=decide (s.size≤64)&&Lib.validD s.data.toList
theorem Ways.three {P:Program}{ops:Array Oper}{Q:Exit→Act→World→Prop}{md:Region.Mode}{S:World→Prop}{z:Nat}{i j l:Nat}{o o' o2:Oper}{n:Nat}{L:Array Bool}{a:Act}{w:World}(hi:ops[i]? = some o) (hj:ops[j]? = some o') (hl:ops[l]? = some o2) (hr:Region.ready md ops L=[i,j,l])
  (h:∀ K:Act→World→Prop,Shut (∀ a w,(i≠z→S w)→((i≠z→S w)→Ways P md ops Q S z n (L.setIfInBounds i true) a w)→K a w)→
   if Region.wanted o (yielded ops a.tmps)=true then Oper.wp P o a w K Q else K (a.put o.dst undef) w)
  (h':∀ K:Act→World→Prop,Shut (∀ a w,(j≠z→S w)→((j≠z→S w)→Ways P md ops Q S z n (L.setIfInBounds j true) a w)→K a w)→
   if Region.wanted o' (yielded ops a.tmps)=true then Oper.wp P o' a w K Q else K (a.put o'.dst undef) w)
  (h2:∀ K:Act→World→Prop,Shut (∀ a w,(l≠z→S w)→((l≠z→S w)→Ways P md ops Q S z n (L.setIfInBounds l true) a w)→K a w)→
   if Region.wanted o2 (yielded ops a.tmps)=true then Oper.wp P o2 a w K Q else K (a.put o2.dst undef) w):Ways P md ops Q S z (n+1) L a w:=by
 refine⟨fun h0=>(by rw[hr]at h0;cases h0),fun k hk=>?_⟩
 rw[hr]at hk
 rcases(by simpa using hk:k=i∨k=j∨k=l) with hk | hk | hk
 ·subst hk
  exact wpOp_step hi fun K hK=>h K fun a w hS hW=>hK a w ⟨hS,hW hS⟩
 ·subst hk
  exact wpOp_step hj fun K hK=>h' K fun a w hS hW=>hK a w ⟨hS,hW hS⟩
 subst hk
 exact wpOp_step hl fun K hK=>h2 K fun a w hS hW=>hK a w ⟨hS,hW hS⟩
theorem TC (v:Int):∃ x:UInt8,Value.int .u8 (v%256)=zg x:=by
 obtain⟨x,hx⟩:=dq v
 exact⟨x,by rw[← hx,IntKind.wrap_u8]⟩
theorem nT (q:Int) {n:Nat}(hn:n≤128) (w:World) :
  Calls Tryz.prog 54 #[.int .i64 q,.int .i64 (n:Int)] w fun e w'=>∃ A c l,e=.returned (.slice A n c)∧l.length=n∧Fresh w l (.slice A n c) w':=by
 have zP:=Below.refl w.heap.size w;go_enter Tryz.func54,Tryz.ntmps54
 go_wp2_with fail
 go_loopw [5,8] (fun v3 v5 wr=>∃ (k:Nat) (VA:Option Addr) (vc vn:Nat) (l:List UInt8),k≤n∧v5=.int .i64 (k:Int)∧v3=.slice VA vn vc∧vn=k∧l.length=k∧OwnB wr w.heap.size (.slice VA vn vc) l∧Below w.heap.size w wr) (fun _ v5 _=>n-(intOf v5).toNat)
 case atStart=>exact⟨0,none,0,0,[],by omega,rfl,rfl,rfl,rfl,OwnB.nil _ _,zP⟩
 case round =>
 clear zP;obtain⟨k,VA,vc,vn,l,hk,rfl,rfl,mg,VD,vf,yE⟩:=hrel;have HK:=Hh hk;have HV:=Hh (And.intro mg VD);clear hk mg VD
 by_cases yy:k<n
 ·have ei:(k:Int)<(n:Int):=by omega
  have mP:decide ((k:Int)<(n:Int))=true:=decide_eq_true ei;have ej:decide (k<n)=true:=decide_eq_true yy;have sv:=Hh yy;go_wp2_with (at_builtin;refine zf ?_)
  unfold zU
  generalize IntKind.u64.wrap q/2 ^ (8*(k%8))+(k:Int)/8=v0
  obtain⟨x,hx⟩:∃ x:UInt8,Value.int .u8 (v0%256)=zg x:=TC _;have HC:Hid ((#[.int .u8 (v0%256)]:Array Value).toList=[x].map zg):=by simp[Hid,← hx]
  have yp:=vf.alloc (.cells #[.int .u8 (v0%256)] 5);have yz:=yE.alloc yE.size (.cells #[.int .u8 (v0%256)] 5)
  refine zv rfl (.tmp 11) (.tmp 24) rfl w.heap.size (.slice VA vn vc) l rfl yp _ 1 _ [x] rfl rfl (Src.new _ _ _ _ rfl _ HC.out) (by have:=HV.out;have:=HK.out;simp;omega) yz.size fun v' w7 wY hg7 hat7=>?_
  have xU:=yz.grown hg7 yz.size (fun q hq=>(yp.lt q hq).1);obtain⟨VA',vc',rfl,bU⟩:=wY.form;clear bU hg7 hat7 hx yp yz vf yE;obtain⟨m,hm⟩:∃ m,l++[x]=m:=⟨_,rfl⟩
  have HM:Hid (m.length=k+1):=by have:=HV.out;rw[Hid,← hm,List.length_append];simp;omega
  rw[hm]at wY⊢;clear hm;go_wp2_with fail
  go_roundw
  case rel=>exact⟨k+1,VA',vc',_,m,by have:=sv.out;omega,by go_num,rfl,HM.out,HM.out,wY,xU⟩
  case measure=>have:=sv.out;simp[intOf];omega
 have ei:¬ ((k:Int)<(n:Int)):=by omega
 have mP:decide ((k:Int)<(n:Int))=false:=decide_eq_false ei;have ej:decide (k<n)=false:=decide_eq_false yy;obtain rfl:vn=n:=by have:=HV.out;have:=HK.out;omega
 have HL:Hid (l.length=vn):=by have:=HV.out;rw[Hid];omega
 clear yy;go_wp2_with fail
 go_ret
 exact⟨VA,vc,rfl,l,HL.out,vf,yE⟩
theorem OwnX.append_wp {α:Type}{L:Lie α}{t:TypeId}{w:World}{base:Nat}{v:Value}{H:Snap}{l:List α}{o:Oper}{a:Act}{K:Act→World→Prop}{Q:Exit→Act→World→Prop}(s x:Operand) (T:TypeId)
  (ho:o.op=.call { callee:=.builtin .append,args:=#[s,x],argTypes:=#[T,T] }) (hT:Tryz.prog.underlying T=some (.slice t)) {z:Value} {bytes:Nat} (Sy:z.cells.size=L.k) (iI:bytes≤128)
  (hinfo:(Tryz.prog.info? t).map (fun i=>(i.zero,i.size,i.bytes))=some (some z,L.k,bytes))
  (hs:a.eval s=v) (sz:OwnX L t w base v H l) (A:Option Addr) (m c:Nat) (cs:List Value) (news:List α) (hx:a.eval x=.slice A m c) (hm:m=news.length)
  (hn:RowC L H cs news) (hr:Src w A cs) (z6:l.length+news.length≤1099511627776) (hbase:base≤w.heap.size)
  (h:∀ v' w',OwnX L t w' base v' H (l++news)→w.grownBy w' v.ownBlock→At0 w v.ownBlock v'.ownBlock→K (a.put o.dst v') w') :
  Oper.wp Tryz.prog o a w K Q:=by
 subst hm;obtain⟨xs,Za,sz⟩:=sz;obtain⟨i0,yK,lW,qL,qE⟩:=info_parts hinfo
 refine uW s x _ ho base t i0 _ L.k bytes hT yK lW qL qE Sy L.pos v l.length xs hs sz A news.length c cs hx hn.len hr hn.oneCell
  (by simp only[maxLen];omega) (by have:=Nat.mul_le_mul z6 iI;omega) hbase fun v' w' h2 h3 h4=>h v' w' ?_ h3 ?_
 ·exact⟨xs++cs,Za.app hn,by simpa using h2⟩
 rcases h4 with h4 | h4
 ·exact .inl h4
 exact .inr ⟨_,h4,Nat.le_refl _⟩
def BlkM (w:World) (g:Nat) (cs:Array Value):Prop:=∃ fz,w.heap[g]? = some (.cells cs 5 fz)
theorem BlkM.cell {w:World}{g:Nat}{cs:Array Value}(h:BlkM w g cs) (i:Nat) {v:Value}(hv:cs[i]? = some v):w.cell? ⟨g,i,none⟩=some v:=by
 obtain⟨fz,h⟩:=h
 exact(cell_of_row w g i cs _ fz h).trans hv
theorem BlkM.lt {w:World}{g:Nat}{cs:Array Value}(h:BlkM w g cs):g<w.heap.size:=by
 obtain⟨fz,h⟩:=h
 exact(Array.getElem?_eq_some_iff.1 h).1
theorem BlkM.below {w w':World}{g:Nat}{cs:Array Value}(h:BlkM w g cs) (hb:Below w.heap.size w w'):BlkM w' g cs:=by
 have hl:=h.lt;obtain⟨fz,h⟩:=h
 exact⟨fz,(hb.block g hl).trans h⟩
theorem nu {w:World}{o:Oper}{a:Act}{K:Act→World→Prop}{Q:Exit→Act→World→Prop}(s:Operand)
  (ho:o.op=.convert 23 23 s) (g n c:Nat) (cs:Array Value) (hs:a.eval s=.slice (some ⟨g,0,none⟩) n c) (hB:Blk w g 5 cs)
  (h:∀ w',BlkM w' g cs→w.grownBy w' (some g)→(∀ p,w'.cell? p=w.cell? p)→K (a.put o.dst (.slice (some ⟨g,0,none⟩) n c)) w'):o.wp Tryz.prog a w K Q:=by
 have Q9:w.shape? g=some (5,cs.size):=by
  unfold World.shape?
  rw[show w.heap[g]? = some (.cells cs 5 (0,0)) from hB]
 have dT:(convert 23 23 (.slice (some ⟨g,0,none⟩) n c)).run Tryz.prog w=.ok (.slice (some ⟨g,0,none⟩) n c) (w.freeze ⟨g,cs.size,none⟩ 1):=by
  simp[convert,run_underlying Tryz.underlying23,run_underlying Tryz.underlying5,markStringish,Q9]
 unfold Oper.wp execOp
 simp only[ho,hs,Sem.run_bind,Sem.run_pure,Result.andThen_ok,dT]
 have Do:w.freeze ⟨g,cs.size,none⟩ 1={ w with heap:=w.heap.modify g fun | .cells c elem (lo,hi)=>.cells c elem (if lo==hi then(cs.size,cs.size+1) else(min lo cs.size,max hi (cs.size+1))) | o=>o }:=by
  unfold World.freeze
  rw[if_neg (by decide)];rfl
 rw[Do]
 refine h _ ⟨(cs.size,cs.size+1), ?_⟩ ⟨rfl,rfl,rfl,by simp,fun k hk xq=>?_⟩ fun p=>?_
 ·show(w.heap.modify g _)[g]? = _
  rw[Array.getElem?_modify,show w.heap[g]? = some (.cells cs 5 (0,0)) from hB]
  simp
 ·show(w.heap.modify g _)[k]? = _
  rw[Array.getElem?_modify]
  simp only[ne_eq,Option.some.injEq]at xq
  rw[if_neg (fun e=>xq e.symm)]
 unfold World.cell?
 show(match (w.heap.modify g _)[p.block]? with | some (.cells c _ _)=>if p.spot.isSome then none else c[p.off]? | _=>none)=_
 rw[Array.getElem?_modify]
 by_cases e:g=p.block
 ·rw[if_pos e,← e,show w.heap[g]? = some (.cells cs 5 (0,0)) from hB];rfl
 rw[if_neg e];rfl
theorem Vh (l:List UInt8) (cs:Array Value) (hc:cs.toList=l.map zg) (j:Nat) (v:Value) (h:(l.map zg)[j]? = some v):cs[j]? = some v:=by
 rw[← hc]at h
 simpa using h
theorem nr {w:World}{o:Oper}{a:Act}{K:Act→World→Prop}{Q:Exit→Act→World→Prop}(s x:Operand)
  (ho:o.op=.call { callee:=.builtin .append,args:=#[s,x],argTypes:=#[23,23] })
  (g n:Nat) (cs:Array Value) (olds:List UInt8) (hs:a.eval s=.slice (some ⟨g,0,none⟩) n n) (hn:n=olds.length) (hB:BlkM w g cs) (lT:cs.toList=olds.map zg)
  (A:Option Addr) (m c:Nat) (news:List UInt8) (hx:a.eval x=.slice A m c) (hm:m=news.length) (hr:Src w A (news.map zg)) (h0:0<news.length) (z6:olds.length+news.length≤1099511627)
  (h:∀ v' w',Fresh w (olds++news) v' w'→K (a.put o.dst v') w'):o.wp Tryz.prog a w K Q:=by
 subst hm;subst hn;obtain⟨i0,yK,lW,qL,qE⟩:=info_parts nS
 have xq:news.map zg≠[]:=by
  intro e
  have:=congrArg List.length e
  simp at this
  subst this
  simp at h0
 obtain⟨b,off,rfl,hc⟩:=hr xq
 have dT:=run_append_grow (P:=Tryz.prog) w 23 o.type 5 i0 _ Tryz.underlying23 yK lW ⟨g,0,none⟩ olds.length olds.length (olds.map zg) (by rw[qL];simp) (fun j v hj=>by rw[rg,Nat.zero_add];exact hB.cell j (Vh olds cs lT j v hj))
  ⟨b,off,none⟩ news.length c (news.map zg) (by rw[qL];simp) (fun j u hu=>by rw[rg];exact hc j u hu) (by omega) (by omega) (growslice_fits (by omega) (by rw[qE];omega))
 unfold Oper.wp execOp
 simp only[ho,resolve,invoke,builtin,Sem.run_bind,Sem.run_pure,Result.andThen_ok,List.map_toArray,List.map_cons,List.map_nil,hs,hx,dT]
 have iJ:=grownCap_ge w (olds.length+news.length) olds.length 5;have Zf:grownCap w (olds.length+news.length) olds.length 5≤maxLen:=grownCap_le_maxLen w _ _ _ (by simp only[maxLen];omega)
 refine h _ _ ⟨⟨by simp,.inr ⟨w.heap.size,_,_,by rw[List.length_append],Nat.le_refl _,heap_alloc_new w.drew _,by rw[List.length_append];exact iJ,Zf, ?_, ?_⟩⟩,(Below.refl _ _).drew.alloc (Nat.le_refl _) _⟩
 ·simp only[Array.size_append,List.size_toArray,size_zeroCells,List.length_map]
  rw[show(Value.int IntKind.u8 0).cells.size=1 from rfl]
  omega
 rw[List.length_append,Nat.mul_one,List.map_append]
 simp only[Array.toList_append,List.append_assoc]
 rw[← List.append_assoc]
 exact List.take_left' (by simp)
def Sz (w:World) (l:List Mb) (e:Ending) (w':World):Prop:=∃ b,e=.returned (.bool b)∧(b=true→∀ m∈l,m.sender.length=1)∧Below w.heap.size w w'
theorem aK {H:Snap}{A:Option Addr}{c:Nat}{l:List Mb}(hI:IsRow ru H A c l) {n:Nat}(hn:n=l.length) (hl:l.length≤1099511) (w:World) (hH:Holds w H) :
  Calls Tryz.prog 47 #[.slice A n c] w (Sz w l):=by
 have HN:=Hh (And.intro hn hl);have HI:=Hh hI;have HH:=Hh hH;have HC:Hid (n≤c):=by have:=hI.le;rw[Hid];omega
 have zP:Below w.heap.size w w:=Below.refl _ _;have H0:Hid (∀ i (h:i<l.length),i<0→l[i].sender.length=1):=fun i h h0=>absurd h0 (by omega)
 clear hn hl hI hH;go_enter Tryz.func47,Tryz.ntmps47
 go_wp2_with fail
 go_loopw [8] (fun v8 wr=>∃ j:Nat,v8=.int .i64 (j:Int)∧Hid (j≤n)∧Hid (∀ i (h:i<l.length),i<j→l[i].sender.length=1)∧Below w.heap.size w wr) (fun v8 _=>(n:Int).toNat+1-(intOf v8).toNat)
 case atStart=>exact⟨0,rfl,Nat.zero_le _,H0,zP⟩
 case round =>
 clear H0 zP;obtain⟨j,rfl,HJ,HF,hb⟩:=hrel
 by_cases yy:(j:Int)<(n:Int)
 ·have u9:j<l.length:=by rw[← HN.out.1];omega
  obtain⟨gb,go,me,rL⟩:=HI.out.at_ (by omega);have C6:=Hh rL;obtain⟨d,hd,hc⟩:=rL j u9;obtain⟨ma,hd,oN⟩:=hd;subst hd;obtain⟨m,hm⟩:∃ m,l[j]=m:=⟨_,rfl⟩
  rw[hm]at hc oN;have HM:Hid (∀ h:j<l.length,l[j]=m):=fun _=>hm
  obtain⟨sn,iN⟩:∃ k,m.sender.length=k:=⟨_,rfl⟩
  have HS:=Hh iN;have wM:=HH.out.below hb (Nat.le_refl _);have r0:=wM.cell (hc 0 _ rfl);have r1:=wM.cell (hc 1 _ rfl);have r2:=wM.cell (hc 2 _ rfl);have r3:=wM.cell (hc 3 _ rfl);have r4:=wM.cell (hc 4 _ rfl);have r5:=wM.cell (hc 5 _ rfl);have r6:=wM.cell (hc 6 _ rfl)
  simp only[ru,Nat.add_zero,Nat.zero_add,← Nat.add_assoc]at r0 r1 r2 r3 r4 r5 r6
  rw[iN]at r1;have fH:=Hh oN;have hP:=Blk.new wr 57 (xQ m ma);have yz:=hb.alloc hb.size (.cells (xQ m ma) 57);have Xs:=hb.size;rw[show xQ m ma=tO m.name m.roles m.since ma.sa sn ma.sc ma.ca m.cred.length ma.cc ma.ha m.share.length ma.hc ma.wa m.wrap.length ma.wc by rw[← iN]]at hP yz;obtain⟨P,oS⟩:∃ P,wr.heap.size=P:=⟨_,rfl⟩
  obtain⟨w2,qK⟩:∃ w2,wr.alloc (.cells (tO m.name m.roles m.since ma.sa sn ma.sc ma.ca m.cred.length ma.cc ma.ha m.share.length ma.hc ma.wa m.wrap.length ma.wc) 57)=w2:=⟨_,rfl⟩
  rw[oS,qK]at hP;rw[oS]at Xs;rw[qK]at yz;have lQ:=Hh (And.intro oS qK);have fE:(j:Int)+1≤9223372036854775807:=by have:=HN.out.2;omega
  have tR:=Hh u9;have BX:=Hh Xs;clear oS qK rL hc oN hb u9 wM hm iN Xs;rw[me];go_upto_region 4 with fail
  try rw[lQ.out.1]
  try rw[lQ.out.2]
  clear r0 r1 r2 r3 r4 r5 r6 me;have p1:=hP.cell 1 rfl
  by_cases ug:sn=1
  ·have e1:((sn:Int)=1)=True:=eq_true (by omega);have e2:((sn:Int)==1)=true:=by simpa using (by omega:(sn:Int)=1)
   have e3:((sn:Int) != 1)=false:=by simpa using (by omega:(sn:Int)=1)
   have Sh:=Hh ug;clear ug;go_upto_region 6 with fail
   clear p1;go_wp2_with fail
   go_loopw [5] (fun v5 wx=>∃ k:Nat,v5=.int .i64 (k:Int)∧Hid (k≤j)∧Blk wx P 57 (tO m.name m.roles m.since ma.sa sn ma.sc ma.ca m.cred.length ma.cc ma.ha m.share.length ma.hc ma.wa m.wrap.length ma.wc)∧Below w.heap.size w wx) (fun v5 _=>(j:Int).toNat+1-(intOf v5).toNat)
   case atStart=>exact⟨0,rfl,Nat.zero_le _,hP,yz⟩
   case round =>
   clear hP yz;obtain⟨k,rfl,HK,hP,hb⟩:=hrel
   by_cases hkt:(k:Int)<(j:Int)
   ·have sX:k<l.length:=by have:=tR.out;omega
    obtain⟨d,hd,hc⟩:=C6.out k sX;obtain⟨mb,hd,oN⟩:=hd;subst hd;have pX:l[k].sender.length=1:=HF.out k sX (by omega)
    generalize l[k]=m2 at *
    have wM:=HH.out.below hb (Nat.le_refl _);have q0:=wM.cell (hc 0 _ rfl);have q1:=wM.cell (hc 1 _ rfl)
    simp only[ru,Nat.add_zero,Nat.zero_add,← Nat.add_assoc]at q0 q1
    have VI:m.sender.length=1:=HS.out.trans Sh.out;obtain⟨xb,xo,NU,hx⟩:=oN.sender.at_ (by omega);obtain⟨yb,yo,GB,hy⟩:=fH.out.sender.at_ (by omega);have x0:=wM.cell (hx 0 (by omega));have y0:=wM.cell (hy 0 (by omega))
    generalize m2.sender[0]=xv at *
    generalize m.sender[0]=yv at *
    rw[NU]at q1;have p0:=hP.cell 0 rfl;have p1:=hP.cell 1 rfl;rw[GB]at p1
    simp only[Nat.add_zero]at x0 y0
    obtain⟨tn,G5⟩:∃ k,m2.sender.length=k:=⟨_,rfl⟩
    rw[G5]at q1 pX;have g1:(0:Int)<(tn:Int):=by omega
    have g2:(0:Int)<(sn:Int):=by have:=Sh.out;omega
    have g3:(k:Int)<(n:Int):=by omega
    have g4:(0:Int)≤(k:Int):=by omega
    have HB:=Hh hb;have fI:=Hh hP;have nm:m2.name=m2.name:=rfl
    generalize m2.name=s2 at *
    obtain⟨s1,ug⟩:∃ s,m.name=s:=⟨_,rfl⟩
    rw[ug]at p0;have k63:IntKind.i64.wrap ((k:Int)+1)=(k:Int)+1:=IntWalk.i64_in _ (by omega);clear hc oN hx hy wM VI pX G5 NU GB ug nm hb hP e1 e2 e3;go_upto_region 9 with fail
    by_cases hq:s2=s1
    ·have f1:(s2=s1)=True:=eq_true hq;have f2:(s2==s1)=true:=by rw[hq,beq_toListBytes];exact beq_self_eq_true _
     have f3:(s2.toList==s1.toList)=true:=by rw[hq];exact beq_self_eq_true _
     clear hq;go_big_quiet (fail)
     have iI:=below_drewNv HB.out nq
     generalize wr.drewN nq=wy at iI⊢
     go_wp2_with fail
     go_ret
     exact⟨false,rfl,fun h=>(by cases h),iI⟩
    have f1:(s2=s1)=False:=eq_false hq
    have f3:(s2.toList==s1.toList)=false:=by
     cases h:(s2.toList==s1.toList) with
     | false=>rfl
     | true=>exact absurd (by have:=beq_iff_eq.1 h;rw[ByteArray.toList_eq,ByteArray.toList_eq]at this;exact ByteArray.ext (Array.toList_inj.1 this)) hq
    have f2:(s2==s1)=false:=by rw[beq_toListBytes];exact f3
    clear hq
    by_cases hv:xv.toNat=yv.toNat
    ·have v1:((xv.toNat:Int)=(yv.toNat:Int))=True:=eq_true (by omega);have v2:((xv.toNat:Int)==(yv.toNat:Int))=true:=beq_iff_eq.2 (by omega);clear hv;go_big_quiet (fail)
     have iI:=below_drewNv HB.out nq
     generalize wr.drewN nq=wy at iI⊢
     go_wp2_with fail
     go_ret
     exact⟨false,rfl,fun h=>(by cases h),iI⟩
    have v1:((xv.toNat:Int)=(yv.toNat:Int))=False:=eq_false (by omega);have v2:((xv.toNat:Int)==(yv.toNat:Int))=false:=beq_eq_false_iff_ne.2 (by omega);clear hv;go_big_quiet (fail)
    have iI:=below_drewNv HB.out nq;have Fb:=fI.out.below (below_drewNv (Below.refl _ _) nq)
    generalize wr.drewN nq=wy at iI Fb⊢
    go_wp2_with fail
    go_roundw
    case rel=>exact⟨k+1,by go_num,by rw[Hid];omega,Fb,iI⟩
    case measure=>simp[intOf];omega
   have MU:Hid (∀ i (h:i<l.length),i<j+1→l[i].sender.length=1):=fun i h hi=>by
    by_cases e:i=j
    ·subst e;rw[HM.out h];exact HS.out.trans Sh.out
    exact HF.out i h (by omega)
   clear hP e1 e2 e3;go_wp2_with fail
   go_roundw
   case rel=>exact⟨j+1,by go_num,by rw[Hid];omega,MU,hb⟩
   case measure=>simp[intOf];omega
  have e1:((sn:Int)=1)=False:=eq_false (by omega);have e2:((sn:Int)==1)=false:=by simpa using (by omega:¬ (sn:Int)=1)
  have e3:((sn:Int) != 1)=true:=by simpa using (by omega:¬ (sn:Int)=1)
  clear hP;go_wp2_with fail
  go_ret
  exact⟨false,rfl,fun h=>(by cases h),yz⟩
 have Fs:j=n:=by have:=HJ.out;omega
 have HE:Hid (∀ m∈l,m.sender.length=1):=fun m hm=>by
  obtain⟨i,hi,rfl⟩:=List.getElem_of_mem hm
  exact HF.out i hi (by rw[Fs,HN.out.1];exact hi)
 go_wp2_with fail
 go_ret
 exact⟨true,rfl,fun _=>HE.out,hb⟩
structure Gp where
 id:List UInt8
 secret:List UInt8
 number:Int
 members:List Mb
abbrev gpC (ia:Option Addr) (il ic:Nat) (sa:Option Addr) (sl sc:Nat) (num:Int) (ma:Option Addr) (ml mc:Nat):Array Value:=#[.slice ia il ic,.slice sa sl sc,.int .i64 num,.slice ma ml mc]
abbrev gpQ (g:Gp) (a:EAd):Array Value:=gpC a.ia g.id.length a.ic a.sa g.secret.length a.sc g.number a.ma g.members.length a.mc
structure GpA (H:Snap) (g:Gp) (a:EAd):Prop where
 id:IsBytes H a.ia a.ic g.id
 secret:IsBytes H a.sa a.sc g.secret
 number : -9223372036854775808≤g.number∧g.number≤9223372036854775807
 members:IsRow ru H a.ma a.mc g.members
 small:g.id.length≤1099511∧g.secret.length≤1099511∧g.members.length≤1099511
theorem GpA.mono {H K:Snap}{g:Gp}{a:EAd}(h:GpA H g a) (hl:H.le K):GpA K g a:=⟨h.id.mono hl,h.secret.mono hl,h.number,h.members.mono hl,h.small⟩
abbrev xN:Array Value:=#[.slice none 0 0,.slice none 0 0,.int .i64 0,.slice none 0 0]
theorem zZ:(Tryz.prog.info? 38).map (·.size)=some 4:=by kernel_rfl
theorem dK (H:Snap):IsRow ru H none 0 []:=⟨by simp,by omega,by simp⟩
theorem dO (H:Snap):GpA H ⟨[],[],0,[]⟩ ⟨none,0,none,0,none,0⟩:=⟨IsBytes.nil _,IsBytes.nil _,by show(-9223372036854775808:Int)≤0∧(0:Int)≤9223372036854775807;omega,dK H,by simp⟩
def jI (w:World) (H:Snap) (e:Ending) (w':World):Prop:=∃ g a H' n,e=.returned (.tuple #[.agg (gpQ g a),.int .i64 n])∧Grows w H w' H'∧GpA H' g a
theorem cm {H:Snap}{A B:Option Addr}{ca cb:Nat}{x y:List UInt8}{n m:Nat}(hn:n=x.length) (hm:m=y.length) (w:World) (hH:Holds w H) (hA:Src w A (x.map zg)) (hB:Src w B (y.map zg)) :
  Calls Tryz.prog 22 #[.slice A n ca,.slice B m cb] w (jI w H):=by
 have HN:=Hh (And.intro hn hm);have HH:=Hh hH;have HA:=Hh hA;have HB:=Hh hB;have hT:=Blk.new w 38 xN;have hb:=zl w (.cells xN 38);have u7:Hid (w.heap.size≤w.heap.size):=Nat.le_refl _;clear hn hm hH hA hB;have bad:∀ (wx:World),Blk wx w.heap.size 38 xN→Below w.heap.size w wx→jI w H (.returned (.tuple #[.agg xN,.int .i64 1])) wx:=fun wx h1 h2=>⟨⟨[],[],0,[]⟩,⟨none,0,none,0,none,0⟩,H,1,rfl,Grows.of_below HH.out h2,dO H⟩
 have BAD:=Hh bad;clear bad;go_enter Tryz.func22,Tryz.ntmps22
 by_cases c0:(n:Int)<1
 ·go_wp2_with (with_reducible refine zx ?_)
  refine zu rfl _ _ _ rfl rfl _ _ rfl rfl _ _ hT zZ rfl (vR _ _ _ _ rfl rfl rfl rfl) fun w9 wL hg9=>?_
  have uN:=hb.grown hg9 hb.size (by rintro q ⟨⟩;omega);clear hT hb hg9;go_wp2_with fail
  exact zw rfl rfl wL rfl rfl zZ rfl (BAD.out _ wL uN)
 by_cases c1:(8:Int)<(n:Int)
 ·go_wp2_with (with_reducible refine zx ?_)
  refine zu rfl _ _ _ rfl rfl _ _ rfl rfl _ _ hT zZ rfl (vR _ _ _ _ rfl rfl rfl rfl) fun w9 wL hg9=>?_
  have uN:=hb.grown hg9 hb.size (by rintro q ⟨⟩;omega);clear hT hb hg9;go_wp2_with fail
  exact zw rfl rfl wL rfl rfl zZ rfl (BAD.out _ wL uN)
 by_cases c2:m=32
 ·have e1:((m:Int)=32)=True:=eq_true (by omega);have e2:((m:Int)==32)=true:=beq_iff_eq.2 (by omega);have e3:((m:Int) != 32)=false:=by rw[bne,e2];rfl
  have HL:=Hh (And.intro c1 c2);clear c2;go_wp2_with fail
  have ug:=HA.out.below hb
  refine(mA (c:=ca) HN.out.1 (by have:=HN.out.1;have:=HL.out.1;omega) _ ug).mono ?_
  rintro e w2 ⟨r2,rfl,oT⟩
  obtain⟨A2,d2,rfl,_⟩:=oT.own.form;rw[← HN.out.1];obtain⟨H2,yY,nC,_⟩:=Fresh.snapB (HH.out.below hb (Nat.le_refl _)) oT;have mW:=Hh nC;replace hT:=hT.below yY.below;have oQ:H2 w.heap.size=none:=yY.none (HH.out.none_of_ge (by omega)) (by rw[zW];omega);have yz:=hb.trans (yY.below.mono hb.size);have hG:=(Grows.of_below HH.out hb).trans yY;clear nC oT ug hb yY;go_wp2_with fail
  refine(mA (c:=cb) HN.out.2 (by have:=HN.out.2;have:=HL.out.2;omega) _ (HB.out.below yz)).mono ?_
  rintro e w3 ⟨r3,rfl,iX⟩
  obtain⟨A3,d3,rfl,_⟩:=iX.own.form;rw[← HN.out.2];obtain⟨H3,xf,Fr,_⟩:=Fresh.snapB hG.holds iX;have Pd:=Hh Fr;replace mW:=Hh (mW.out.mono xf.le);have VF:H3 w.heap.size=none:=xf.none oQ hT.lt;replace hT:=hT.below xf.below;replace hG:=hG.trans xf;clear Fr iX xf oQ yz;go_wp2_with (with_reducible refine zx ?_)
  refine zu rfl _ _ _ rfl rfl _ _ rfl rfl _ _ hT zZ rfl (vR _ _ _ _ rfl rfl rfl rfl) fun w9 wL hg9=>?_
  have tZ:=hG.grownOwn VF u7.out hg9;clear hT hG hg9 VF;go_wp2_with fail
  refine zw rfl rfl wL rfl rfl zZ rfl ?_
  have hx:=HN.out.1;have hy:=HN.out.2;subst hx;subst hy
  exact⟨⟨x,y,0,[]⟩,⟨A2,d2,A3,d3,none,0⟩,H3,0,rfl,tZ,mW.out,Pd.out,by show(-9223372036854775808:Int)≤0∧(0:Int)≤9223372036854775807;omega,dK H3,by have:=HL.out.1;have:=HL.out.2;simp only[List.length_nil];omega⟩
 have e1:((m:Int)=32)=False:=eq_false (by omega);have e2:((m:Int)==32)=false:=beq_eq_false_iff_ne.2 (by omega);have e3:((m:Int) != 32)=true:=by rw[bne,e2];rfl
 go_wp2_with (with_reducible refine zx ?_)
 refine zu rfl _ _ _ rfl rfl _ _ rfl rfl _ _ hT zZ rfl (vR _ _ _ _ rfl rfl rfl rfl) fun w9 wL hg9=>?_
 have uN:=hb.grown hg9 hb.size (by rintro q ⟨⟩;omega);clear hT hb hg9;go_wp2_with fail
 exact zw rfl rfl wL rfl rfl zZ rfl (BAD.out _ wL uN)
def qj (H:Snap):Prop:=∀ (m:Mb) (a:MAd) (w:World),MemA H m a→Holds w H→Calls Tryz.prog 48 #[.agg (xQ m a)] w fun e w'=>∃ b,e=.returned (.bool b)∧Below w.heap.size w w'
def QE (g:Gp):Prop:=1≤g.id.length∧g.id.length≤8∧g.secret.length=32∧0≤g.number∧g.number≤65535∧g.members.length≤16∧∀ m∈g.members,m.sender.length=1
def qQ (w:World) (g:Gp) (e:Ending) (w':World):Prop:=∃ b,e=.returned (.bool b)∧(b=true→QE g)∧Below w.heap.size w w'
theorem sZ {H:Snap}(hS:qj H) {g:Gp}{a:EAd}(hg:GpA H g a) (w:World) (hH:Holds w H) :
  Calls Tryz.prog 18 #[.agg (gpQ g a)] w (qQ w g):=by
 obtain⟨il,rC⟩:∃ n,n=g.id.length:=⟨_,rfl⟩
 obtain⟨sl,sP⟩:∃ n,n=g.secret.length:=⟨_,rfl⟩
 obtain⟨ml,rS⟩:∃ n,n=g.members.length:=⟨_,rfl⟩
 have HN:=Hh (And.intro rC (And.intro sP rS));have HG:=Hh hg;have HH:=Hh hH;have HS:=Hh hS;show Calls Tryz.prog 18 #[.agg (gpC a.ia g.id.length a.ic a.sa g.secret.length a.sc g.number a.ma g.members.length a.mc)] w (qQ w g)
 rw[← rC,← sP,← rS];have hB:=Blk.new w 38 (gpC a.ia il a.ic a.sa sl a.sc g.number a.ma ml a.mc);have hb:=zl w (.cells (gpC a.ia il a.ic a.sa sl a.sc g.number a.ma ml a.mc) 38);have BT:Hid (-9223372036854775808≤g.number∧g.number≤9223372036854775807):=hg.number;have BAD:Hid (∀ wx,Below w.heap.size w wx→qQ w g (.returned (.bool false)) wx):=fun wx h=>⟨false,rfl,fun h=>(by cases h),h⟩
 have g0:=hB.cell 0 rfl;have g1:=hB.cell 1 rfl;have g2:=hB.cell 2 rfl;have g3:=hB.cell 3 rfl;clear rC sP rS hg hH hS;go_enter Tryz.func18,Tryz.ntmps18
 by_cases c0:(il:Int)<1
 ·clear hB;go_wp2_with fail
  go_ret
  exact BAD.out _ hb
 by_cases c1:(8:Int)<(il:Int)
 ·clear hB;go_wp2_with fail
  go_ret
  exact BAD.out _ hb
 by_cases c2:sl≠32
 ·have e1:((sl:Int)=32)=False:=eq_false (by omega);have e2:((sl:Int)==32)=false:=beq_eq_false_iff_ne.2 (by omega);have e3:((sl:Int) != 32)=true:=by rw[bne,e2];rfl
  clear hB c2;go_wp2_with fail
  go_ret
  exact BAD.out _ hb
 have e1:((sl:Int)=32)=True:=eq_true (by omega);have e2:((sl:Int)==32)=true:=beq_iff_eq.2 (by omega);have e3:((sl:Int) != 32)=false:=by rw[bne,e2];rfl
 have c2':=Hh c2;clear c2
 by_cases c3:g.number<0
 ·clear hB;go_wp2_with fail
  go_ret
  exact BAD.out _ hb
 by_cases c4:(65535:Int)<g.number
 ·clear hB;go_wp2_with fail
  go_ret
  exact BAD.out _ hb
 by_cases c5:(16:Int)<(ml:Int)
 ·clear hB;go_wp2_with fail
  go_ret
  exact BAD.out _ hb
 have AP:=Hh (fun wx hx=>aK (n:=ml) HG.out.members HN.out.2.2 HG.out.small.2.2 wx hx);go_wp2_with fail
 refine(AP.out _ (HH.out.below hb (Nat.le_refl _))).mono ?_
 rintro e w2 ⟨b2,rfl,oX,yz⟩
 replace hB:=hB.below yz;replace hb:=hb.trans (yz.mono hb.size);have HA:=Hh oX;clear yz oX AP g0 g1 g2 g3
 cases b2 with
 | false =>
  clear hB;go_wp2_with fail
  go_ret
  exact BAD.out _ hb
 | true =>
 have GOOD:Hid (QE g):=by
  have h1:=HN.out.1;have h2:=HN.out.2.1;have h3:=HN.out.2.2;have h4:=c2'.out
  exact⟨by omega,by omega,by omega,by omega,by omega,by omega,HA.out rfl⟩
 have PM:=Hh (And.intro c3 c4);have c5':=Hh c5;clear c0 c1 c3 c4 c5 e1 e2 e3 HA c2';have g3:=hB.cell 3 rfl;go_wp2_with fail
 clear g3;go_loopw [46] (fun v46 wr=>∃ j:Nat,v46=.int .i64 (j:Int)∧Hid (j≤ml)∧Blk wr w.heap.size 38 (gpC a.ia il a.ic a.sa sl a.sc g.number a.ma ml a.mc)∧Below w.heap.size w wr) (fun v46 _=>(ml:Int).toNat+1-(intOf v46).toNat)
 case atStart=>exact⟨0,rfl,Nat.zero_le _,hB,hb⟩
 case round =>
 clear hB hb;obtain⟨j,rfl,HJ,hB,hb⟩:=hrel
 by_cases yy:(j:Int)<(ml:Int)
 ·have u9:j<g.members.length:=by rw[← HN.out.2.2];omega
  obtain⟨gb,go,me,rL⟩:=HG.out.members.at_ (by omega);obtain⟨d,hd,hc⟩:=rL j u9;obtain⟨ma,hd,oN⟩:=hd;subst hd
  generalize g.members[j]=m at *
  have wM:=HH.out.below hb (Nat.le_refl _);have r0:=wM.cell (hc 0 _ rfl);have r1:=wM.cell (hc 1 _ rfl);have r2:=wM.cell (hc 2 _ rfl);have r3:=wM.cell (hc 3 _ rfl);have r4:=wM.cell (hc 4 _ rfl);have r5:=wM.cell (hc 5 _ rfl);have r6:=wM.cell (hc 6 _ rfl)
  simp only[ru,Nat.add_zero,Nat.zero_add,← Nat.add_assoc]at r0 r1 r2 r3 r4 r5 r6
  have fH:=Hh oN;have hP:=Blk.new wr 57 (xQ m ma);have vE:=hB.alloc (.cells (xQ m ma) 57);have yz:=hb.alloc hb.size (.cells (xQ m ma) 57);obtain⟨P,oS⟩:∃ P,wr.heap.size=P:=⟨_,rfl⟩
  obtain⟨w2,qK⟩:∃ w2,wr.alloc (.cells (xQ m ma) 57)=w2:=⟨_,rfl⟩
  rw[oS,qK]at hP;rw[qK]at vE yz;have lQ:=Hh (And.intro oS qK);have fE:(j:Int)+1≤9223372036854775807:=by have:=c5'.out;omega
  have tR:=Hh (And.intro u9 yy);have VN:=Hh me;clear oS qK rL hc oN hB hb u9 wM;rw[me];go_upto_region 6 with fail
  try rw[lQ.out.1]
  try rw[lQ.out.2]
  clear r0 r1 r2 r3 r4 r5 r6 me;have p0:=hP.cell 0 rfl;have p1:=hP.cell 1 rfl;have p2:=hP.cell 2 rfl;have p3:=hP.cell 3 rfl;have p4:=hP.cell 4 rfl;have p5:=hP.cell 5 rfl;have p6:=hP.cell 6 rfl;have SD:=Hh (HS.out m ma w2 fH.out (HH.out.below yz (Nat.le_refl _)));go_wp2_with fail
  refine SD.out.mono ?_
  rintro e w3 ⟨b3,rfl,vg⟩
  replace hB:=vE.below vg;replace hP:=hP.below vg;replace hb:=yz.trans (vg.mono yz.size);clear p0 p1 p2 p3 p4 p5 p6 SD vE yz vg
  cases b3 with
  | false =>
   clear hB hP;go_wp2_with fail
   go_ret
   exact BAD.out _ hb
  | true =>
  have p5:=hP.cell 5 rfl;have p6:=hP.cell 6 rfl;have g2:=hB.cell 2 rfl
  simp only[Bool.not_true]
  by_cases d0:m.wrap.length≠16
  ·have e1:((m.wrap.length:Int)=16)=False:=eq_false (by omega);have e2:((m.wrap.length:Int)==16)=false:=beq_eq_false_iff_ne.2 (by omega);have e3:((m.wrap.length:Int) != 16)=true:=by rw[bne,e2];rfl
   clear hB hP d0;go_wp2_with fail
   go_ret
   exact BAD.out _ hb
  have e1:((m.wrap.length:Int)=16)=True:=eq_true (by omega);have e2:((m.wrap.length:Int)==16)=true:=beq_iff_eq.2 (by omega);have e3:((m.wrap.length:Int) != 16)=false:=by rw[bne,e2];rfl
  clear d0
  by_cases d1:m.since<0
  ·clear hB hP;go_wp2_with fail
   go_ret
   exact BAD.out _ hb
  by_cases d2:g.number<m.since
  ·clear hB hP;go_wp2_with fail
   go_ret
   exact BAD.out _ hb
  clear hP;go_wp2_with fail
  go_roundw
  case rel=>exact⟨j+1,by go_num,(by have:=tR.out.2;exact(show j+1≤ml by omega)),(by rw[← VN.out];exact hB),hb⟩
  case measure=>have:=tR.out.2;simp[intOf];omega
 go_wp2_with fail
 go_ret
 exact⟨true,rfl,fun _=>GOOD.out,hb⟩
theorem kp:(Tryz.prog.info? 57).map (fun i=>(i.zero,i.size,i.bytes))=some (some (.agg qa),7,128):=by kernel_rfl
theorem IsRow.src {α:Type}{L:Lie α}{H:Snap}{A:Option Addr}{c:Nat}{l:List α}(h:IsRow L H A c l):∃ cs,RowC L H cs l∧∀ wx,Holds wx H→Src wx A cs:=by
 cases hl:l with
 | nil=>exact⟨[],RowC.nil L H,fun wx _=>Src.nil _ _⟩
 | cons x t =>
 obtain⟨b,off,cs,e,h1,h2⟩:=h.row (by rw[hl];simp);rw[hl]at h1
 exact⟨cs,h1,fun wx hx _=>⟨b,off,e,fun j v hj=>hx.cell (h2 j v hj)⟩⟩
def nv (w:World) (H:Snap) (g:Gp) (a:EAd) (e:Ending) (w':World):Prop:=∃ v,e=.returned (.agg #[.slice a.ia g.id.length a.ic,.slice a.sa g.secret.length a.sc,.int .i64 g.number,v])∧OwnX ru 57 w' w.heap.size v H g.members∧Below w.heap.size w w'
theorem mC {H:Snap}{g:Gp}{a:EAd}(hg:GpA H g a) (w:World) (hH:Holds w H) :
  Calls Tryz.prog 52 #[.agg (gpQ g a)] w (nv w H g a):=by
 obtain⟨il,rC⟩:∃ n,n=g.id.length:=⟨_,rfl⟩
 obtain⟨sl,sP⟩:∃ n,n=g.secret.length:=⟨_,rfl⟩
 obtain⟨ml,rS⟩:∃ n,n=g.members.length:=⟨_,rfl⟩
 have HN:=Hh (And.intro rC (And.intro sP rS));obtain⟨cs,lT,MI⟩:=hg.members.src;have S7:=Hh hg.small.2.2;have HR:=Hh lT;have Cs:=Hh MI;have HH:=Hh hH;show Calls Tryz.prog 52 #[.agg (gpC a.ia g.id.length a.ic a.sa g.secret.length a.sc g.number a.ma g.members.length a.mc)] w (nv w H g a)
 rw[← rC,← sP,← rS];have XE:=(Blk.new w 38 (gpC a.ia il a.ic a.sa sl a.sc g.number a.ma ml a.mc)).alloc (.cells xN 38);have hT:=Blk.new (w.alloc (.cells (gpC a.ia il a.ic a.sa sl a.sc g.number a.ma ml a.mc) 38)) 38 xN;rw[zW]at hT;have hb:=((zl w (.cells (gpC a.ia il a.ic a.sa sl a.sc g.number a.ma ml a.mc) 38)).alloc (zl w (.cells (gpC a.ia il a.ic a.sa sl a.sc g.number a.ma ml a.mc) 38)).size (.cells xN 38))
 clear rC sP rS hg lT MI hH;go_enter Tryz.func52,Tryz.ntmps52
 go_upto_region 1 with fail
 go_cut [2] (fun s2 wx=>s2=.pointer (some ⟨w.heap.size+1,0,none⟩)∧∃ v,Blk wx (w.heap.size+1) 38 #[.slice a.ia il a.ic,.slice a.sa sl a.sc,.int .i64 g.number,v]∧OwnX ru 57 wx w.heap.size v H g.members∧Below w.heap.size w wx)
 case first =>
  replace hb:=hb.drew;replace XE:=XE.below (Below.refl _ _).drew;replace hT:=hT.below (Below.refl _ _).drew
  refine zn 10 (fun wx=>wx.cell? ⟨w.heap.size,0,none⟩=some (.slice a.ia il a.ic)∧wx.cell? ⟨w.heap.size,1,none⟩=some (.slice a.sa sl a.sc)∧wx.cell? ⟨w.heap.size,2,none⟩=some (.int .i64 g.number)∧wx.cell? ⟨w.heap.size,3,none⟩=some (.slice a.ma ml a.mc)) (by kernel_rfl) (⟨XE.cell 0 rfl,XE.cell 1 rfl,XE.cell 2 rfl,XE.cell 3 rfl⟩) (fun zy=>?_)
  refine Tk 0 rfl zy ?_
  refine Tk 1 rfl zy ?_
  refine Tk 2 rfl zy ?_
  refine Tk 3 rfl zy ?_
  refine Tk 4 rfl zy ?_
  refine Tk 5 rfl zy ?_
  refine Tk 6 rfl zy ?_
  refine Tk 7 rfl zy ?_
  refine To 8 rfl fun K hK=>?_
  refine OwnX.append_wp (v:=.slice none 0 0) (.const (.slice none 0 0)) (.tmp 10) 31 rfl Tryz.underlying31 rfl (by omega) kp rfl (OwnX.nil ru 57 _ w.heap.size H) a.ma ml a.mc cs g.members rfl HN.out.2.2 HR.out (Cs.out _ (HH.out.below hb (Nat.le_refl _))) (by have:=S7.out;simp only[List.length_nil];omega) hb.size fun v5 w9 fK hg9 hat9=>?_
  rw[List.nil_append]at fK;have uN:=yT (by simpa [Value.ownBlock] using hg9);replace XE:=XE.below uN;replace hb:=hb.trans (uN.mono hb.size)
  have LV:v5.ownBlock=none∨v5.ownBlock≠some (w.heap.size+1):=by
   rcases hat9 with h | ⟨q,h,hq⟩
   ·exact .inl h
   exact .inr (by rw[h];intro e;injection e with e;have h3:=Nat.lt_of_lt_of_le hT.lt hq;omega)
  replace hT:=hT.below uN;obtain⟨VA,vc,rfl,ut⟩:=fK.form;clear uN hg9 hat9 ut;go_simp
  refine Ko hK ?_ fun zy=>?_
  ·exact⟨XE.cell 0 rfl,XE.cell 1 rfl,XE.cell 2 rfl,XE.cell 3 rfl⟩
  clear hK K
  refine Tk 9 rfl zy ?_
  refine To 10 rfl fun K hK=>?_
  refine zF _ _ _ rfl (w.heap.size+1) #[.slice a.ia il a.ic,.slice a.sa sl a.sc,.int .i64 g.number,.slice VA g.members.length vc] rfl rfl _ _ hT zZ rfl (vR _ _ _ _ rfl rfl rfl rfl) fun w10 tJ u4=>?_
  have cB:=fK.kept u4 LV;have wJ:=hb.grown u4 hb.size (by rintro q ⟨⟩;omega);clear fK u4 LV hT;go_simp
  refine Kz hK ?_
  clear hK K
  refine Wd ?_
  try clear zy
  go_wp2_with fail
  go_meet
  exact⟨rfl,_,tJ,cB,wJ⟩
 case rest =>
 clear XE hT hb;obtain⟨rfl,v,hT,hO,hb⟩:=hcut;have c0:=hT.cell 0 rfl;go_wp2_with fail
 refine xS rfl rfl hT rfl rfl zZ rfl ?_
 exact⟨v,by rw[HN.out.1,HN.out.2.1],hO,hb⟩
theorem OwnX.freeze {α:Type}{L:Lie α}{t:TypeId}{w w':World}{H:Snap}{A:Option Addr}{m c:Nat}{l:List α}(hH:Holds w H) (hb:Below w.heap.size w w') (h:OwnX L t w' w.heap.size (.slice A m c) H l):∃ H',Grows w H w' H'∧IsRow L H' A c l∧m=l.length:=by
 obtain⟨H',hl,hh,hf,hn,hi⟩:=h.snap (hH.below hb (Nat.le_refl _)) (fun g hg=>hH.none_of_ge (h.lt g (by cases A <;> simp_all [Value.ownBlock])).1)
 refine⟨H',⟨hb,hl,hh,fun b o Np=>?_⟩,hi,hn⟩
 rcases hf b o Np with h1 | h1
 ·exact .inl h1
 exact .inr (h.lt b (by cases A <;> simp_all [Value.ownBlock])).1
theorem fZ {H:Snap}(hS:qj H) {g:Gp}{a:EAd}(hg:GpA H g a) (w:World) (hH:Holds w H) :
  Calls Tryz.prog 27 #[.agg (gpQ g a)] w (jI w H):=by
 have V:Hid (∀ wx,Holds wx H→Calls Tryz.prog 18 #[.agg (gpC a.ia g.id.length a.ic a.sa g.secret.length a.sc g.number a.ma g.members.length a.mc)] wx (qQ wx g)):=fun wx hx=>sZ hS hg wx hx
 have C:Hid (∀ wx,Holds wx H→Calls Tryz.prog 52 #[.agg (gpC a.ia g.id.length a.ic a.sa g.secret.length a.sc g.number a.ma g.members.length a.mc)] wx (nv wx H g a)):=fun wx hx=>mC hg wx hx
 have HG:=Hh hg;have HH:=Hh hH;obtain⟨il,rC⟩:∃ n,n=g.id.length:=⟨_,rfl⟩
 obtain⟨sl,sP⟩:∃ n,n=g.secret.length:=⟨_,rfl⟩
 obtain⟨ml,rS⟩:∃ n,n=g.members.length:=⟨_,rfl⟩
 have HN:=Hh (And.intro rC (And.intro sP rS));show Calls Tryz.prog 27 #[.agg (gpC a.ia g.id.length a.ic a.sa g.secret.length a.sc g.number a.ma g.members.length a.mc)] w (jI w H)
 rw[← rC,← sP,← rS]at V C⊢;have hB:=(Blk.new w 38 (gpC a.ia il a.ic a.sa sl a.sc g.number a.ma ml a.mc)).alloc (.cells xN 38);have hT:=Blk.new (w.alloc (.cells (gpC a.ia il a.ic a.sa sl a.sc g.number a.ma ml a.mc) 38)) 38 xN;rw[zW]at hT;have hb:=((zl w (.cells (gpC a.ia il a.ic a.sa sl a.sc g.number a.ma ml a.mc) 38)).alloc (zl w (.cells (gpC a.ia il a.ic a.sa sl a.sc g.number a.ma ml a.mc) 38)).size (.cells xN 38))
 have BAD:Hid (∀ (wx:World) (n:Int),Below w.heap.size w wx→jI w H (.returned (.tuple #[.agg xN,.int .i64 n])) wx):=fun wx n h2=>⟨⟨[],[],0,[]⟩,⟨none,0,none,0,none,0⟩,H,n,rfl,Grows.of_below HH.out h2,dO H⟩
 have g0:=hB.cell 0 rfl;have g1:=hB.cell 1 rfl;have g2:=hB.cell 2 rfl;have g3:=hB.cell 3 rfl;clear rC sP rS hg hH hS;go_enter Tryz.func27,Tryz.ntmps27
 go_upto_region 1 with fail
 generalize (w.alloc (.cells (gpC a.ia il a.ic a.sa sl a.sc g.number a.ma ml a.mc) 38)).alloc (.cells xN 38)=w1 at hB hT hb g0 g1 g2 g3⊢
 go_wp2_with fail
 refine(V.out _ (HH.out.below hb (Nat.le_refl _))).mono ?_
 rintro e w2 ⟨b2,rfl,oX,yz⟩
 replace hB:=hB.below yz;replace hT:=hT.below yz;replace hb:=hb.trans (yz.mono hb.size);have HA:=Hh oX;clear yz oX V g0 g1 g2 g3
 cases b2 with
 | false =>
  clear hB;go_wp2_with (with_reducible refine zx ?_)
  refine zu rfl _ _ _ rfl rfl _ _ rfl rfl _ _ hT zZ rfl (vR _ _ _ _ rfl rfl rfl rfl) fun w9 wL hg9=>?_
  have uN:=hb.grown hg9 hb.size (by rintro q ⟨⟩;omega);clear hT hb hg9;go_wp2_with fail
  exact zw rfl rfl wL rfl rfl zZ rfl (BAD.out _ _ uN)
 | true =>
 simp only[Bool.not_true]
 have GD:=Hh (HA.out rfl);have g2:=hB.cell 2 rfl
 by_cases hx:g.number=65535
 ·have e1:(g.number=65535)=True:=eq_true hx;have e2:(g.number==65535)=true:=beq_iff_eq.2 hx;clear hB hx;go_wp2_with (with_reducible refine zx ?_)
  refine zu rfl _ _ _ rfl rfl _ _ rfl rfl _ _ hT zZ rfl (vR _ _ _ _ rfl rfl rfl rfl) fun w9 wL hg9=>?_
  have uN:=hb.grown hg9 hb.size (by rintro q ⟨⟩;omega);clear hT hb hg9;go_wp2_with fail
  exact zw rfl rfl wL rfl rfl zZ rfl (BAD.out _ _ uN)
 have e1:(g.number=65535)=False:=eq_false hx;have e2:(g.number==65535)=false:=beq_eq_false_iff_ne.2 hx;have HX:=Hh hx;clear hx HA;have g0:=hB.cell 0 rfl;have g1:=hB.cell 1 rfl;have g3:=hB.cell 3 rfl;go_wp2_with fail
 have iq:=HH.out.below hb (Nat.le_refl _)
 refine(C.out _ iq).mono ?_
 rintro e w3 ⟨v,rfl,qC,vg⟩
 obtain⟨VA,vc,rfl,ut⟩:=qC.form;obtain⟨H3,xf,Nl,PF⟩:=qC.freeze iq vg;have VF:H3 (w.heap.size+1)=none:=xf.none (HH.out.none_of_ge (by omega)) hT.lt;replace hT:=hT.below vg;have hG:=(Grows.of_below HH.out hb).trans xf;have HR:=Hh Nl;rw[← HN.out.1,← HN.out.2.1,← HN.out.2.2];clear ut PF qC vg xf Nl iq hb hB g0 g1 g2 g3 e1 e2 C;have hP:=Blk.new w3 38 (gpC a.ia il a.ic a.sa sl a.sc g.number VA ml vc);have un:=hT.alloc (.cells (gpC a.ia il a.ic a.sa sl a.sc g.number VA ml vc) 38);have uv:=hG.alloc (.cells (gpC a.ia il a.ic a.sa sl a.sc g.number VA ml vc) 38);have mY:=hT.lt;have JC:H3 w3.heap.size=none:=hG.holds.none_of_ge (Nat.le_refl _);have JY:=hG.below.size;obtain⟨P,oS⟩:∃ P,w3.heap.size=P:=⟨_,rfl⟩
 obtain⟨w4,fU⟩:∃ w4,w3.alloc (.cells (gpC a.ia il a.ic a.sa sl a.sc g.number VA ml vc) 38)=w4:=⟨_,rfl⟩
 rw[oS,fU]at hP;rw[fU]at un uv;rw[oS]at mY JC JY;have HW:=Hh (And.intro oS fU);have rb:=Hh (And.intro mY (And.intro JC JY));have kw:IntKind.i64.wrap (g.number+1)=g.number+1:=IntWalk.i64_in _ (by have h1:=GD.out.2.2.2.1;have h2:=GD.out.2.2.2.2.1;omega);clear oS fU hT hG mY JC JY;go_upto_region 6 with fail
 try rw[HW.out.1]
 try rw[HW.out.2]
 have p2:=hP.cell 2 rfl;go_wp2_with (with_reducible refine zx ?_)
 refine zr rfl _ _ _ rfl rfl P 2 (.int .i64 (g.number+1)) rfl rfl _ _ hP (by kernel_rfl) (by simp) rfl fun w5 cC yg=>?_
 have yO:=un.grown yg (by intro e;injection e with e;have:=rb.out.1;omega);have xC:=uv.grownOwn rb.out.2.1 rb.out.2.2 yg;replace cC:Blk w5 P 38 (gpC a.ia il a.ic a.sa sl a.sc (g.number+1) VA ml vc):=cC;clear p2 hP un uv yg;have p0:=cC.cell 0 rfl;have p1:=cC.cell 1 rfl;have p2:=cC.cell 2 rfl;have p3:=cC.cell 3 rfl;go_wp2_with (with_reducible refine zx ?_)
 refine zu rfl _ _ _ rfl rfl _ _ rfl rfl _ _ yO zZ rfl (vR _ _ _ _ rfl rfl rfl rfl) fun w9 wL hg9=>?_
 have tZ:=xC.grownOwn VF (by omega) hg9;clear yO xC hg9 p0 p1 p2 p3 cC;go_wp2_with fail
 refine zw rfl rfl wL rfl rfl zZ rfl ?_
 exact⟨⟨g.id,g.secret,g.number+1,g.members⟩,⟨a.ia,a.ic,a.sa,a.sc,VA,vc⟩,H3,0,by rw[HN.out.1,HN.out.2.1,HN.out.2.2];rfl,tZ,⟨HG.out.id.mono tZ.le,HG.out.secret.mono tZ.le,by have h1:=GD.out.2.2.2.1;have h2:=GD.out.2.2.2.2.1;show(-9223372036854775808:Int)≤g.number+1∧g.number+1≤9223372036854775807;omega,HR.out,HG.out.small⟩⟩
def nmP:Itm→Option Int
 | .mk k n _ _=>if 1048576<n then none else if k=0 then some (n:Int) else if k=1 then some (-1-(n:Int)) else none
def nmR:Itm→Int
 | .mk k n _ _=>if k=1 then -1-((min n 1048576:Nat):Int) else((min n 1048576:Nat):Int)
theorem rE {H:Snap}{k n:Int}{ba:Option Addr}{bl bc:Nat}{ia:Option Addr}{il ic:Nat}{x:Itm}(hx:ItemA H k n ba bl bc ia il ic x) (w:World) :
  Calls Tryz.prog 100 #[.agg #[.int .i64 k,.int .u64 n,.slice ba bl bc,.slice ia il ic]] w fun e w'=>e=.returned (.int .i64 (nmR x))∧Below w.heap.size w w':=by
 obtain⟨rfl,rfl,rfl,rfl,_⟩:=hx;obtain⟨xk,xn,xb,xl⟩:=x
 simp only[Itm.kind,Itm.n,Itm.bytes,Itm.items]
 have hB:=Blk.new w 78 #[.int .i64 xk,.int .u64 (xn:Int),.slice ba xb.length bc,.slice ia xl.length ic];have hb:=zl w (.cells #[.int .i64 xk,.int .u64 (xn:Int),.slice ba xb.length bc,.slice ia xl.length ic] 78);have c0:=hB.cell 0 rfl;have c1:=hB.cell 1 rfl;clear hB
 by_cases h1:1048576<xn
 ·have i1:(1048576:Int)<(xn:Int):=by omega
  have MN:min (xn:Int) 1048576=1048576:=by omega
  have d1:decide ((1048576:Int)<(xn:Int))=true:=decide_eq_true i1
  by_cases h2:xk=1
  ·subst h2;have E:Hid (nmR (.mk 1 xn xb xl) = -1048577):=by rw[Hid,nmR,if_pos rfl,show min xn 1048576=1048576 by omega];rfl
   clear h1;go_enter Tryz.func100,Tryz.ntmps100
   go_wp2_with fail
   go_ret
   exact⟨by rw[E.out];rfl,hb⟩
  have b1:(xk==1)=false:=by rw[beq_eq_false_iff_ne];exact h2
  have p1:(xk=1)=False:=eq_false h2;have E:Hid (nmR (.mk xk xn xb xl)=1048576):=by rw[Hid,nmR,if_neg h2,show min xn 1048576=1048576 by omega];rfl
  clear h1 h2;go_enter Tryz.func100,Tryz.ntmps100
  go_wp2_with fail
  go_ret
  exact⟨by rw[E.out];rfl,hb⟩
 have i1:¬ (1048576:Int)<(xn:Int):=by omega
 have MN:min (xn:Int) 1048576=(xn:Int):=by omega
 have d1:decide ((1048576:Int)<(xn:Int))=false:=decide_eq_false i1;have W1:IntKind.i64.wrap (xn:Int)=(xn:Int):=IntWalk.i64_in _ (by omega);have W2:IntKind.i64.wrap (-1-(xn:Int)) = -1-(xn:Int):=IntWalk.i64_in _ (by omega)
 by_cases h2:xk=1
 ·subst h2;have E:Hid (nmR (.mk 1 xn xb xl) = -1-(xn:Int)):=by rw[Hid,nmR,if_pos rfl,show min xn 1048576=xn by omega]
  clear h1;go_enter Tryz.func100,Tryz.ntmps100
  go_wp2_with fail
  go_ret
  exact⟨by rw[E.out];rfl,hb⟩
 have b1:(xk==1)=false:=by rw[beq_eq_false_iff_ne];exact h2
 have p1:(xk=1)=False:=eq_false h2;have E:Hid (nmR (.mk xk xn xb xl)=(xn:Int)):=by rw[Hid,nmR,if_neg h2,show min xn 1048576=xn by omega]
 clear h1 h2;go_enter Tryz.func100,Tryz.ntmps100
 go_wp2_with fail
 go_ret
 exact⟨by rw[E.out];rfl,hb⟩
def U7 (q:Ky) (k n:Int):Option Ky :=
 if k=1 then some { q with kty:=n } else if k=3 then some { q with alg:=n } else if k = -1 then some { q with crv:=n } else none
def Yv (q:Ky) (k:Int) (b:List UInt8):Option Ky :=
 if k=2 then some { q with kid:=b } else if k = -1 then some { q with k:=b } else if k = -2 then some { q with x:=b } else if k = -4 then some { q with d:=b } else none
def Ys (q:Ky) (a v:Itm):Option Ky :=
 match nmP a with
 | none=>none
 | some k=>match nmP v with
  | some n=>U7 q k n
  | none=>if v.kind=2 then Yv q k v.bytes else none
def tf:Ky→List Itm→Option Ky
 | q,a::v::l=>match Ys q a v with
  | none=>none
  | some q'=>tf q' l
 | q,_=>some q
def vm (q:Ky) (a v:Itm):Ky :=
 if nmR a=1 then { q with kty:=nmR v } else if nmR a=2 then { q with kid:=v.bytes } else if nmR a=3 then { q with alg:=nmR v }
 else if nmR a = -1 then { q with crv:=nmR v,k:=v.bytes } else if nmR a = -2 then { q with x:=v.bytes } else if nmR a = -4 then { q with d:=v.bytes } else q
def vP:Ky→List Itm→Ky
 | q,a::v::l=>vP (vm q a v) l
 | q,_=>q
theorem gA (q:Ky):tf q []=some q:=by simp[tf]
theorem lp (q:Ky):vP q []=q:=by simp[vP]
def vK:Ky:=⟨0,0,0,[],[],[],[]⟩
theorem gY {n:Int}(h1 : -1048577≤n) (h2:n≤1048576):nmP (zh n)=some n:=by
 unfold zh
 split
 ·rw[nmP,if_neg (by omega),if_neg (by omega),if_pos rfl];congr 1
  omega
 rw[nmP,if_neg (by omega),if_pos rfl];congr 1
 omega
theorem gZ {n:Int}(h1 : -1048577≤n) (h2:n≤1048576):nmR (zh n)=n:=by
 unfold zh
 split
 ·rw[nmR,if_pos rfl]
  omega
 rw[nmR,if_neg (by omega)]
 omega
theorem YN (n:Int):(zh n).bytes=[]:=by unfold zh;split <;> rfl
theorem TP (b:List UInt8):nmP (mv b)=none:=by
 rw[mv,nmP,if_neg (by omega),if_neg (by omega),if_neg (by omega)]
theorem lj (q q':Ky) (k n:Int) (l:List Itm) (pX : -1048577≤k) (kM:k≤1048576) (oY : -1048577≤n) (oQ:n≤1048576) (h:U7 q k n=some q'):tf q (zh k::zh n::l)=tf q' l:=by
 rw[tf,Ys,gY pX kM]
 simp only[gY oY oQ,h]
theorem YR (q q':Ky) (k:Int) (b:List UInt8) (l:List Itm) (pX : -1048577≤k) (kM:k≤1048576) (h:Yv q k b=some q'):tf q (zh k::mv b::l)=tf q' l:=by
 rw[tf,Ys,gY pX kM];have e:(mv b).kind=2:=rfl;have e2:(mv b).bytes=b:=rfl
 simp only[TP,e,if_true,e2,h]
theorem od (q q':Ky) (k:Int) (b:List UInt8) (l:List Itm) (pX : -1048577≤k) (kM:k≤1048576) (h:Yv q k b=some q') (h0:b=[]→q'=q):tf q (pR k b++l)=tf q' l:=by
 unfold pR
 split
 ·exact YR q q' k b l pX kM h
 rename_i hb
 have:b=[]:=by cases b with
  | nil=>rfl
  | cons _ _=>simp at hb
 rw[h0 this];rfl
theorem lq (q:Ky) (k n:Int) (l:List Itm):vP q (zh k::zh n::l)=vP (vm q (zh k) (zh n)) l:=rfl
theorem oe (q q':Ky) (k:Int) (b:List UInt8) (l:List Itm) (h:vm q (zh k) (mv b)=q') (h0:b=[]→q'=q):vP q (pR k b++l)=vP q' l:=by
 unfold pR
 split
 ·show vP (vm q (zh k) (mv b)) l=_
  rw[h]
 rename_i hb
 have:b=[]:=by cases b with
  | nil=>rfl
  | cons _ _=>simp at hb
 rw[h0 this];rfl
theorem eW {b:List UInt8}(h:b.length=0):b=[]:=List.eq_nil_of_length_eq_zero h
theorem cR {q:Ky}(h:wV q=true):tf vK (y7 q)=some q:=by
 have hv:=(qP q).1 h;obtain⟨kty,crv,alg,kid,x,d,k⟩:=q
 simp only at hv
 have ha:tf vK (y7 ⟨kty,crv,alg,kid,x,d,k⟩)=tf ⟨kty,0,alg,kid,[],[],[]⟩ (if kty=4 then pR (-1) k else [zh (-1),zh crv]++pR (-2) x++pR (-4) d):=by
  unfold y7
  simp only[List.append_assoc,List.cons_append,List.nil_append]
  rw[lj vK ⟨kty,0,0,[],[],[],[]⟩ 1 kty _ (by omega) (by omega) (by omega) (by omega) rfl];rw[od ⟨kty,0,0,[],[],[],[]⟩ ⟨kty,0,0,kid,[],[],[]⟩ 2 kid _ (by omega) (by omega) rfl (fun e=>by rw[e])]
  split
  ·rename_i h0
   rw[h0];rfl
  rw[List.cons_append,List.cons_append,List.nil_append];rw[lj ⟨kty,0,0,kid,[],[],[]⟩ ⟨kty,0,alg,kid,[],[],[]⟩ 3 alg _ (by omega) (by omega) (by omega) (by omega) rfl]
 rw[ha]
 rcases hv.2.2.2 with ⟨h1,hc,hx,hd,h0,hk⟩ | ⟨h4,hc,hxd,pX,kM⟩
 ·rw[if_neg (by omega)];obtain rfl:=eW hk
  simp only[List.append_assoc,List.cons_append,List.nil_append]
  rw[lj _ ⟨kty,crv,alg,kid,[],[],[]⟩ (-1) crv _ (by omega) (by omega) (by omega) (by omega) rfl];rw[od _ ⟨kty,crv,alg,kid,x,[],[]⟩ (-2) x _ (by omega) (by omega) rfl (fun e=>by rw[e])];have:=od ⟨kty,crv,alg,kid,x,[],[]⟩ ⟨kty,crv,alg,kid,x,d,[]⟩ (-4) d [] (by omega) (by omega) rfl (fun e=>by rw[e]);rw[List.append_nil]at this;rw[this,gA]
 rw[if_pos h4];obtain rfl:=eW (show x.length=0 by omega);obtain rfl:=eW (show d.length=0 by omega);have:=od ⟨kty,0,alg,kid,[],[],[]⟩ ⟨kty,0,alg,kid,[],[],k⟩ (-1) k [] (by omega) (by omega) rfl (fun e=>by rw[e]);rw[List.append_nil]at this;rw[this,gA,hc]
theorem lr (q:Ky) (k n:Int) (pX : -1048577≤k) (kM:k≤1048576) (oY : -1048577≤n) (oQ:n≤1048576):vm q (zh k) (zh n) =
  if k=1 then { q with kty:=n } else if k=2 then { q with kid:=[] } else if k=3 then { q with alg:=n }
  else if k = -1 then { q with crv:=n,k:=[] } else if k = -2 then { q with x:=[] } else if k = -4 then { q with d:=[] } else q:=by
 unfold vm
 rw[gZ pX kM,gZ oY oQ,YN]
theorem og (q:Ky) (k:Int) (b:List UInt8) (pX : -1048577≤k) (kM:k≤1048576):vm q (zh k) (mv b) =
  if k=1 then { q with kty:=0 } else if k=2 then { q with kid:=b } else if k=3 then { q with alg:=0 }
  else if k = -1 then { q with crv:=0,k:=b } else if k = -2 then { q with x:=b } else if k = -4 then { q with d:=b } else q:=by
 unfold vm
 rw[gZ pX kM,show nmR (mv b)=0 by rw[mv,nmR,if_neg (by omega)];simp];rfl
theorem cS {q:Ky}(h:wV q=true):vP vK (y7 q)=q:=by
 have hv:=(qP q).1 h;obtain⟨kty,crv,alg,kid,x,d,k⟩:=q
 simp only at hv
 have ha:vP vK (y7 ⟨kty,crv,alg,kid,x,d,k⟩)=vP ⟨kty,0,alg,kid,[],[],[]⟩ (if kty=4 then pR (-1) k else [zh (-1),zh crv]++pR (-2) x++pR (-4) d):=by
  unfold y7
  simp only[List.append_assoc,List.cons_append,List.nil_append]
  rw[lq,lr _ _ _ (by omega) (by omega) (by omega) (by omega),if_pos rfl];rw[oe _ ⟨kty,0,0,kid,[],[],[]⟩ 2 kid _ (by rw[og _ _ _ (by omega) (by omega),if_neg (by omega),if_pos rfl];rfl) (fun e=>by rw[e];rfl)]
  split
  ·rename_i h0
   rw[h0];rfl
  rw[List.cons_append,List.cons_append,List.nil_append];rw[lq,lr _ _ _ (by omega) (by omega) (by omega) (by omega),if_neg (by omega),if_neg (by omega),if_pos rfl]
 rw[ha]
 rcases hv.2.2.2 with ⟨h1,hc,hx,hd,h0,hk⟩ | ⟨h4,hc,hxd,pX,kM⟩
 ·rw[if_neg (by omega)];obtain rfl:=eW hk
  simp only[List.append_assoc,List.cons_append,List.nil_append]
  rw[lq,lr _ _ _ (by omega) (by omega) (by omega) (by omega),if_neg (by omega),if_neg (by omega),if_neg (by omega),if_pos rfl];rw[oe _ ⟨kty,crv,alg,kid,x,[],[]⟩ (-2) x _ (by rw[og _ _ _ (by omega) (by omega),if_neg (by omega),if_neg (by omega),if_neg (by omega),if_neg (by omega),if_pos rfl]) (fun e=>by rw[e])];have:=oe ⟨kty,crv,alg,kid,x,[],[]⟩ ⟨kty,crv,alg,kid,x,d,[]⟩ (-4) d [] (by rw[og _ _ _ (by omega) (by omega),if_neg (by omega),if_neg (by omega),if_neg (by omega),if_neg (by omega),if_neg (by omega),if_pos rfl]) (fun e=>by rw[e]);rw[List.append_nil]at this;rw[this,lp]
 rw[if_pos h4];obtain rfl:=eW (show x.length=0 by omega);obtain rfl:=eW (show d.length=0 by omega);have:=oe ⟨kty,0,alg,kid,[],[],[]⟩ ⟨kty,0,alg,kid,[],[],k⟩ (-1) k [] (by rw[og _ _ _ (by omega) (by omega),if_neg (by omega),if_neg (by omega),if_neg (by omega),if_pos rfl]) (fun e=>by rw[e]);rw[List.append_nil]at this;rw[this,lp,hc]
def pY (x:Itm) (q:Ky):Prop:=wV q=true∧sk q=x
theorem YQ {x:Itm}{q:Ky}(h:pY x q):tf vK x.items=some q:=by rw[← h.2];exact cR h.1
theorem lm {x:Itm}{q:Ky}(h:pY x q):vP vK x.items=q:=by rw[← h.2];exact cS h.1
structure KN (W0:World) (H:Snap) (R K:Nat) (kc:Array Value) (w:World) (Hr:Snap):Prop where
 grows:Grows W0 H w Hr
 res:Blk w R 88 jT
 key:Blk w K 88 kc
 hR:Hr R=none
 hK:Hr K=none
 neRK:R≠K
 wR:W0.heap.size≤R
 wK:W0.heap.size≤K
section
variable {W0 w w':World} {H Hr Hs:Snap} {R K:Nat} {kc kc':Array Value}
theorem KN.grow (h:KN W0 H R K kc w Hr) (k:Grows w Hr w' Hs):KN W0 H R K kc w' Hs :=
 ⟨h.grows.trans k,h.res.below k.below,h.key.below k.below,k.none h.hR h.res.lt,k.none h.hK h.key.lt,h.neRK,h.wR,h.wK⟩
theorem KN.set (h:KN W0 H R K kc w Hr) (hB:Blk w' K 88 kc') (hg:w.grownBy w' (some K)):KN W0 H R K kc' w' Hr :=
 ⟨h.grows.grownOwn h.hK h.wK hg,h.res.grown hg (fun e=>by injection e with e;exact h.neRK e.symm),hB,h.hR,h.hK,h.neRK,h.wR,h.wK⟩
end
def XT (w:World) (H:Snap) (x:Itm) (e:Ending) (w':World):Prop :=
 (yG x=false∧e=.returned (.tuple #[.agg jT,.int .i64 1])∧Below w.heap.size w w')∨
 (yG x=true∧(¬ ∃ q,pY x q)∧e=.returned (.tuple #[.agg jT,.int .i64 12])∧Below w.heap.size w w')∨
 (∃ q a H',yG x=true∧pY x q∧e=.returned (.tuple #[.agg (mu q a),.int .i64 0])∧Grows w H w' H'∧KeyA H' q a)
theorem GG {x:Itm}(h:tf vK x.items=none):¬ ∃ q,pY x q:=fun⟨q,hq⟩=>by rw[YQ hq]at h;cases h
theorem RF {x:Itm}(h:¬ x.kind=5):¬ ∃ q,pY x q:=fun⟨q,hq⟩=>h (by rw[← hq.2];rfl)
end Go.Proofs.YtjpcnhncoidliaaGreatDoor
