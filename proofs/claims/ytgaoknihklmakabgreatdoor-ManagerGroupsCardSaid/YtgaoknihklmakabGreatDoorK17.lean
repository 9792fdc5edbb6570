/- squeezed. Walks: a group with one member mor -/
import Derived.Test.YtgaoknihklmakabGreatDoorK16
set_option linter.unusedVariables false
set_option linter.unusedSimpArgs false
set_option maxRecDepth 100000
set_option maxHeartbeats 25600000
namespace Go.Proofs.YtgaoknihklmakabGreatDoor
open Go.RowKit
theorem jah{P:Prop}(h:P:=by
 go_wp2_with (with_reducible refine zx ?_)
 refine zv rfl _ _ _ rfl rfl _ _ rfl rfl _ _ hA.res zp rfl (yG _ _ _ _ rfl rfl rfl rfl) fun w9 xr yO=>?_
 have uP:=hA.below.grown yO hA.below.size (by rintro q ⟨⟩;omega);clear hA yO;exact je0):P:=h
theorem jaw{P:Prop}(h:P:=by
 go_wp2_with (with_reducible refine zx ?_)
 refine zv rfl _ _ _ rfl rfl _ _ rfl rfl _ _ hA.res zp rfl (yG _ _ _ _ rfl rfl rfl rfl) fun w9 xr yO=>?_
 have uP:=hA.below.grown yO hA.below.size (by rintro q ⟨⟩;omega);clear hA hU yO;exact je0):P:=h
theorem jaA{P:Prop}(h:P:=by
 have h1:=((Blk.new w 25 (gpC a.ia il a.ic a.sa sl a.sc g.number a.ma ml a.mc)).alloc (.cells (yW m.name m.roles m.since b.sa ls b.sc b.ca lc b.cc b.ha lh b.hc b.wa lw b.wc) 27)).alloc (.cells yf 25);have h2:=(Blk.new (w.alloc (.cells (gpC a.ia il a.ic a.sa sl a.sc g.number a.ma ml a.mc) 25)) 27 (yW m.name m.roles m.since b.sa ls b.sc b.ca lc b.cc b.ha lh b.hc b.wa lw b.wc)).alloc (.cells yf 25);have h3:=Blk.new ((w.alloc (.cells (gpC a.ia il a.ic a.sa sl a.sc g.number a.ma ml a.mc) 25)).alloc (.cells (yW m.name m.roles m.since b.sa ls b.sc b.ca lc b.cc b.ha lh b.hc b.wa lw b.wc) 27)) 25 yf;rw[zh]at h2;rw[zh,zh]at h3;have xR:=zm w (.cells (gpC a.ia il a.ic a.sa sl a.sc g.number a.ma ml a.mc) 25);have zC:=xR.alloc xR.size (.cells (yW m.name m.roles m.since b.sa ls b.sc b.ca lc b.cc b.ha lh b.hc b.wa lw b.wc) 27)
 exact⟨zC.alloc zC.size (.cells yf 25),h1,h2,h3⟩):P:=h
theorem jaP{P:Prop}(h:P:=by exact jfs):P:=h
theorem jel{P:Prop}(h:P:=by
 go_wp2_with (with_reducible refine zx ?_)
 refine zv rfl _ _ _ rfl rfl _ _ rfl rfl _ _ hX.res zp rfl (yG _ _ _ _ rfl rfl rfl rfl) fun w9 xr yO=>?_
 have uP:=hX.below.grown yO hX.below.size (by rintro q ⟨⟩;omega);clear hX yO;exact jaP):P:=h
theorem jeI{P:Prop}(h:P:=by
 have NO:Hid (AdmP sP g m 1 vR []):=.arg fun h=>by have h2:=h.2.2;have:=HL.out.2.2.2;omega
 clear c16;exact jah):P:=h
theorem jeN{P:Prop}(h:P:=by
 have NO:Hid (AdmP sP g m 1 vR []):=.arg fun h=>by have h2:=h.2.1;rw[UJ.out]at h2;cases h2
 exact jah):P:=h
theorem jeQ{P:Prop}(h:P:=by
 have NO:Hid (AdmP sP g m 1 vR []):=.arg fun h=>by have h2:=HA.out.2 h.1;cases h2
 exact jah):P:=h
theorem je0{P:Prop}(h:P:=by
 go_wp2_with fail
 exact yh rfl rfl xr rfl rfl zp rfl (BAD.out _ _ uP NO.out)):P:=h
theorem jgA{P:Prop}(h:P:=by have g0:=hA.grp.cell 0 rfl;have g1:=hA.grp.cell 1 rfl;have g2:=hA.grp.cell 2 rfl;have g3:=hA.grp.cell 3 rfl;exact And.intro g0 (And.intro g1 (And.intro g2 g3))):P:=h
theorem jgQ{P:Prop}(h:P:=by have hQ:=Blk.new wr 27 (yW x.name x.roles x.since (some ⟨xb,xo,none⟩) sn xa.sc xa.ca x.cred.length xa.cc xa.ha x.share.length xa.hc xa.wa x.wrap.length xa.wc);exact hQ):P:=h
theorem jhI{P:Prop}(h:P:=by have NO:Hid (AdmP sP g m 8 vR []):=.limit ARG.out oP.out (by have:=HN.out.2.2;have:=RD.out;omega) hx;exact NO):P:=h
theorem kN {fn:Func}{p u v:Tmp}{ty:TypeId}(h:fn.results=#[.cell p ty,.tmp u,.tmp v]) (tmps:Array Value) (P:Program) (w:World) :
  (results fn tmps).run P w =
   ((asAddr (tmps.getD p undef)).run P w).andThen fun a w₁=>((loadVar ty a).run P w₁).andThen fun x w₂=>.ok (.tuple #[x,tmps.getD u undef,tmps.getD v undef]) w₂:=by
 simp only[results,h]
 simp[Sem.run_bind,Result.andThen]
theorem yh {fn:Func}{p u v:Tmp}{ty:TypeId}{a:Act}{w:World}{R:Ending→World→Prop}{g:Nat}{t:TypeId}{cs:Array Value}{d:TypeDesc}(h:fn.results=#[.cell p ty,.tmp u,.tmp v]) (hp:a.tmps.getD p undef=.pointer (some ⟨g,0,none⟩)) (hg:Blk w g t cs)
  (hd:(match d with | .struct _ | .array _ _=>true | _=>false)=true) (hu:Tryz.prog.underlying ty=some d) (hi:(Tryz.prog.info? ty).map (·.size)=some cs.size)
  (hdf:a.defers=[]) (hR:R (.returned (.tuple #[.agg cs,a.tmps.getD u undef,a.tmps.getD v undef])) w):bodyPost Tryz.prog fn R .ret a w:=by
 refine bodyPost_ret (v:=.tuple #[.agg cs,a.tmps.getD u undef,a.tmps.getD v undef]) ?_ hdf hR
 rw[kN h,hp];exact jbp
theorem nl {w w':World}{a:Addr}{v:Value}(h:w.cell? a=some v) (hb:Below w.heap.size w w'):w'.cell? a=some v:=(hb.cell (World.block_lt_of_cell? w _ h)).trans h
def ed (m:Mb):UInt8:=m.sender.headD 0
theorem Ws {m:Mb}(h:m.sender.length=1):m.sender=[ed m]:=by
 unfold ed
 cases hs:m.sender with
 | nil=>rw[hs]at h;cases h
 | cons x t =>
 rw[hs]at h
 cases t with
 | nil=>rfl
 | cons y t=>simp at h
theorem FreeB.members {l:List Mb}{n:UInt8}(hl:∀ m∈l,m.sender.length=1) (h:FreeB (l.map ed) n):FreeP l n :=
 ⟨fun m hm e=>h.free (List.mem_map.2 ⟨m,hm,by rw[ed,e];rfl⟩),fun k hk=>by
  obtain⟨m,hm,e⟩:=List.mem_map.1 (h.least k hk)
  exact⟨m,hm,by rw[Ws (hl m hm),e]⟩⟩
structure AM (W0:World) (gc mc:Array Value) (w:World):Prop where
 below:Below W0.heap.size W0 w
 grp:Blk w W0.heap.size 25 gc
 mem:Blk w (W0.heap.size+1) 27 mc
 res:Blk w (W0.heap.size+2) 25 yf
def AEx (W0:World) (U:Nat) (gc mc:Array Value) (l:List Mb) (w:World):Prop:=∃ vs,SetIs vs (l.map ed)∧Blk w U 66 (oJ vs)∧AM W0 gc mc w
structure FS (W0:World) (H:Snap) (U:Nat) (uc mc pc:Array Value) (P:Nat) (v:Value) (l:List Mb) (w:World) (Hr:Snap):Prop where
 grows:Grows W0 H w Hr
 mem:Blk w (W0.heap.size+1) 27 mc
 res:Blk w (W0.heap.size+2) 25 yf
 used:Blk w U 66 uc
 farU:W0.heap.size+3≤U
 var:Blk w P 25 pc
 far:U+1≤P
 hM:Hr (W0.heap.size+1)=none
 hT:Hr (W0.heap.size+2)=none
 hP:Hr P=none
 own:OwnX vQ 27 w (U+1) v Hr l
 ne:v.ownBlock≠some P
 apart:∀ g,v.ownBlock=some g→Hr g=none
section
variable {W0 w w':World} {H Hr Hs:Snap} {gc mc mc' pc pc' uc:Array Value} {P U:Nat} {v v':Value} {l l':List Mb}
theorem AM.belowX (h:AM W0 gc mc w) (k:Below w.heap.size w w'):AM W0 gc mc w':=⟨h.below.trans (k.mono h.below.size),h.grp.below k,h.mem.below k,h.res.below k⟩
theorem AM.alloc (h:AM W0 gc mc w) (o:Obj):AM W0 gc mc (w.alloc o):=h.belowX (zm w o)
theorem AM.setU (h:AM W0 gc mc w) (hU:W0.heap.size+3≤U) (hg:w.grownBy w' (some U)):AM W0 gc mc w' :=
 ⟨h.below.grown hg h.below.size (by rintro q ⟨⟩;omega),h.grp.gr hg (by omega),h.mem.gr hg (by omega),h.res.gr hg (by omega)⟩
theorem FS.grow (h:FS W0 H U uc mc pc P v l w Hr) (k:Grows w Hr w' Hs):FS W0 H U uc mc pc P v l w' Hs :=
 ⟨h.grows.trans k,h.mem.below k.below,h.res.below k.below,h.used.below k.below,h.farU,h.var.below k.below,h.far,k.none h.hM h.mem.lt,k.none h.hT h.res.lt,k.none h.hP h.var.lt,(h.own.below k.below).mono k.le,h.ne,fun g hg=>k.none (h.apart g hg) (h.own.lt g hg).2⟩
theorem FS.alloc (h:FS W0 H U uc mc pc P v l w Hr) (o:Obj):FS W0 H U uc mc pc P v l (w.alloc o) Hr:=h.grow ((Grows.refl h.grows.holds).alloc o)
theorem FS.drew (h:FS W0 H U uc mc pc P v l w Hr):FS W0 H U uc mc pc P v l w.drew Hr:=h.grow ((Grows.refl h.grows.holds).drew)
theorem FS.setM (h:FS W0 H U uc mc pc P v l w Hr) (hB:Blk w' (W0.heap.size+1) 27 mc') (hg:w.grownBy w' (some (W0.heap.size+1))):FS W0 H U uc mc' pc P v l w' Hr :=
 ⟨h.grows.grownOwn h.hM (by omega) hg,hB,h.res.gr hg (by omega),h.used.grown hg (by intro e;injection e with e;have:=h.farU;omega),h.farU,h.var.grown hg (by intro e;injection e with e;have:=h.far;have:=h.farU;omega),h.far,h.hM,h.hT,h.hP,h.own.kept hg (.inr (by intro e;have:=(h.own.lt _ e).1;have:=h.farU;omega)),h.ne,h.apart⟩
theorem FS.setP (h:FS W0 H U uc mc pc P v l w Hr) (hB:Blk w' P 25 pc') (hg:w.grownBy w' (some P)):FS W0 H U uc mc pc' P v l w' Hr :=
 ⟨h.grows.grownOwn h.hP (by have:=h.far;have:=h.farU;omega) hg,h.mem.grown hg (by intro e;injection e with e;have:=h.far;have:=h.farU;omega),h.res.grown hg (by intro e;injection e with e;have:=h.far;have:=h.farU;omega),h.used.grown hg (by intro e;injection e with e;have:=h.far;omega),h.farU,hB,h.far,h.hM,h.hT,h.hP,h.own.kept hg (.inr h.ne),h.ne,h.apart⟩
theorem FS.app (h:FS W0 H U uc mc pc P v l w Hr) (hO:OwnX vQ 27 w' (U+1) v' Hr l') (hg:w.grownBy w' v.ownBlock) (ha:At0 w v.ownBlock v'.ownBlock):FS W0 H U uc mc pc P v' l' w' Hr :=
 ⟨h.grows.grownRow h.apart (fun g hg=>by have:=(h.own.lt g hg).1;have:=h.farU;omega) hg,h.mem.grown hg (fun e=>by have:=(h.own.lt _ e).1;have:=h.farU;omega),h.res.grown hg (fun e=>by have:=(h.own.lt _ e).1;have:=h.farU;omega),h.used.grown hg (fun e=>by have:=(h.own.lt _ e).1;omega),h.farU,h.var.grown hg h.ne,h.far,h.hM,h.hT,h.hP,hO,by
  rcases ha with e | ⟨g',e,hs⟩
  ·rw[e];exact h.ne
  ·rw[e]
   intro e2
   injection e2 with e2
   have:=h.var.lt
   omega,fun g hv=>by
  rcases ha with e | ⟨g',e,hs⟩
  ·exact jb0
  rw[hv]at e;injection e with e
  subst e
  exact h.grows.hidden hs⟩
theorem FS.up (h:FS W0 H U uc mc pc P v l w Hr):U+1≤w.heap.size:=h.used.lt
theorem FS.freeze {A:Option Addr}{m c:Nat}(h:FS W0 H U uc mc pc P (.slice A m c) l w Hr):∃ H',Grows W0 H w H'∧Hr.le H'∧m=l.length∧IsRow vQ H' A c l∧H' (W0.heap.size+2)=none:=by
 obtain⟨H',hl,hh,hf,hn,hi⟩:=h.own.snap h.grows.holds (fun g hg=>h.apart g (by cases A <;> simp_all [Value.ownBlock]))
 refine⟨H',⟨h.grows.below,h.grows.le.trans hl,hh,fun b o hb=>?_⟩,hl,hn,hi, ?_⟩
 ·rcases hf b o hb with h1 | h1
  ·exact h.grows.fresh b o h1
  exact .inr (by have:=(h.own.lt b (by cases A <;> simp_all [Value.ownBlock])).1;have:=h.farU;omega)
 cases hz:H' (W0.heap.size+2) with
 | none=>rfl
 | some o =>
 rcases hf _ o hz with h1 | h1
 ·rw[h.hT]at h1;cases h1
 have:=(h.own.lt (W0.heap.size+2) (by cases A <;> simp_all [Value.ownBlock])).1;have:=h.farU
 omega
end
theorem mY {sP:Mb→Bool}{H:Snap}(hS:SoundIs sP H) {g:Gp}{a:EAd}(hg:GpA H g a) {m:Mb}{b:MAd}(hm:MemA H m b) (w:World) (hH:Holds w H) :
  Calls Tryz.prog 14 #[.agg (gpQ g a),.agg (y7 m b)] w (rO sP w H g m):=by
 have V:Hid (∀ wx,Holds wx H→Calls Tryz.prog 11 #[.agg (gpC a.ia g.id.length a.ic a.sa g.secret.length a.sc g.number a.ma g.members.length a.mc)] wx (wk sP wx g)):=fun wx hx=>tQ hS hg wx hx
 have C:Hid (∀ wx,Holds wx H→Calls Tryz.prog 35 #[.agg (gpC a.ia g.id.length a.ic a.sa g.secret.length a.sc g.number a.ma g.members.length a.mc)] wx (gP wx H g)):=fun wx hx=>qj hg wx hx
 have SD:Hid (∀ wx,Holds wx H→Calls Tryz.prog 30 #[.agg (yW m.name m.roles m.since b.sa m.sender.length b.sc b.ca m.cred.length b.cc b.ha m.share.length b.hc b.wa m.wrap.length b.wc)] wx fun e w'=>e=.returned (.bool (sP m))∧Below wx.heap.size wx w'):=fun wx hx=>hS H (Snap.le.refl H) m b wx hm hx
 have MM:Hid (∀ wx K,H.le K→Holds wx K→Calls Tryz.prog 36 #[.agg (yW m.name m.roles m.since b.sa m.sender.length b.sc b.ca m.cred.length b.cc b.ha m.share.length b.hc b.wa m.wrap.length b.wc)] wx (YN wx K m)):=fun wx K hl hx=>na (hm.mono hl) wx hx
 have HG:=Hh hg;have HM:=Hh hm;have HH:=Hh hH;obtain⟨il,tL⟩:∃ n,n=g.id.length:=⟨_,rfl⟩
 obtain⟨sl,sJ⟩:∃ n,n=g.secret.length:=⟨_,rfl⟩
 obtain⟨ml,tP⟩:∃ n,n=g.members.length:=⟨_,rfl⟩
 obtain⟨ls,ZC⟩:∃ n,n=m.sender.length:=⟨_,rfl⟩
 obtain⟨lc,eC⟩:∃ n,n=m.cred.length:=⟨_,rfl⟩
 obtain⟨lh,be⟩:∃ n,n=m.share.length:=⟨_,rfl⟩
 obtain⟨lw,eD⟩:∃ n,n=m.wrap.length:=⟨_,rfl⟩
 have HN:=jf2;have HL:=Hh (And.intro ZC (And.intro eC (And.intro be eD)));show Calls Tryz.prog 14 #[.agg (gpC a.ia g.id.length a.ic a.sa g.secret.length a.sc g.number a.ma g.members.length a.mc),.agg (yW m.name m.roles m.since b.sa m.sender.length b.sc b.ca m.cred.length b.cc b.ha m.share.length b.hc b.wa m.wrap.length b.wc)] w (rO sP w H g m)
 rw[← tL,← sJ,← tP]at V C⊢;rw[← ZC,← eC,← be,← eD]at SD MM⊢
 have hA:AM w (gpC a.ia il a.ic a.sa sl a.sc g.number a.ma ml a.mc) (yW m.name m.roles m.since b.sa ls b.sc b.ca lc b.cc b.ha lh b.hc b.wa lw b.wc) (((w.alloc (.cells (gpC a.ia il a.ic a.sa sl a.sc g.number a.ma ml a.mc) 25)).alloc (.cells (yW m.name m.roles m.since b.sa ls b.sc b.ca lc b.cc b.ha lh b.hc b.wa lw b.wc) 27)).alloc (.cells yf 25)):=by
  exact jaA
 have fB:(((w.alloc (.cells (gpC a.ia il a.ic a.sa sl a.sc g.number a.ma ml a.mc) 25)).alloc (.cells (yW m.name m.roles m.since b.sa ls b.sc b.ca lc b.cc b.ha lh b.hc b.wa lw b.wc) 27)).alloc (.cells yf 25)).heap.size=w.heap.size+3:=by simp only[zh]
 have BAD:Hid (∀ (wx:World) (n:Int),Below w.heap.size w wx→AdmP sP g m n vR []→rO sP w H g m (.returned (.tuple #[.agg yf,.slice none 0 0,.int .i64 n])) wx):=fun wx n h2 h3=>⟨vR,⟨none,0,none,0,none,0⟩,H,none,0,[],n,rfl,Grows.of_below HH.out h2,oB H,IsBytes.nil _,h3⟩
 clear tL sJ tP ZC eC be eD hg hm hH hS;go_enter Tryz.func14,Tryz.ntmps14
 go_upto_region 1 with fail
 generalize ((w.alloc (.cells (gpC a.ia il a.ic a.sa sl a.sc g.number a.ma ml a.mc) 25)).alloc (.cells (yW m.name m.roles m.since b.sa ls b.sc b.ca lc b.cc b.ha lh b.hc b.wa lw b.wc) 27)).alloc (.cells yf 25)=w1 at hA fB⊢
 have Lp:=Hh fB;clear fB;obtain⟨g0,g1,g2,g3⟩:=jgA;go_wp2_with fail
 refine(V.out _ (HH.out.below hA.below (Nat.le_refl _))).mono ?_
 rintro e w2 ⟨b2,rfl,kH,zC⟩
 replace hA:=hA.belowX zC;have HA:=Hh kH;clear zC kH V g0 g1 g2 g3 Lp
 cases b2 with
 | false =>
  exact jeQ
 | true =>
 have GD:=Hh (HA.out.1 rfl);clear HA
 simp only[Bool.not_true]
 have m0:=hA.mem.cell 0 rfl;have m1:=hA.mem.cell 1 rfl;have m2:=hA.mem.cell 2 rfl;have m3:=hA.mem.cell 3 rfl;have m4:=hA.mem.cell 4 rfl;have m5:=hA.mem.cell 5 rfl;have m6:=hA.mem.cell 6 rfl;go_wp2_with fail
 refine(SD.out _ (HH.out.below hA.below (Nat.le_refl _))).mono ?_
 rintro e w3 ⟨rfl,xy⟩
 replace hA:=hA.belowX xy;clear xy m0 m1 m2 m3 m4 m5 m6 SD;obtain⟨b3,xy⟩:∃ b,sP m=b:=⟨_,rfl⟩
 have UJ:=Hh xy;rw[xy];clear xy
 cases b3 with
 | false =>
  exact jeN
 | true =>
 simp only[Bool.not_true]
 have m5:=hA.mem.cell 5 rfl
 by_cases c16:(lw:Int)=16
 case neg =>
  obtain⟨e1,e2,e3⟩:=xt c16;exact jeI
 obtain⟨e1,e2,e3⟩:=zK c16;have ARG:Hid (bE sP g m):=⟨GD.out,UJ.out,by have:=HL.out.2.2.2;omega⟩
 clear c16;go_upto_region 3 with fail
 clear e1 e2 e3 m5;have RK:Hid (w.heap.size+3≤w3.heap.size):=hA.res.lt
 have Mu:AEx w w3.heap.size (gpC a.ia il a.ic a.sa sl a.sc g.number a.ma ml a.mc) (yW m.name m.roles m.since b.sa ls b.sc b.ca lc b.cc b.ha lh b.hc b.wa lw b.wc) (g.members.take 0) (w3.alloc (.cells #[.int .u64 0,.int .u64 0,.int .u64 0,.int .u64 0] 66)) :=
  ⟨[0,0,0,0],SetIs.nil,Blk.new _ _ _,hA.alloc _⟩
 obtain⟨U,hU⟩:∃ U,w3.heap.size=U:=⟨_,rfl⟩
 obtain⟨w4,kJ⟩:∃ w4,w3.alloc (.cells #[.int .u64 0,.int .u64 0,.int .u64 0,.int .u64 0] 66)=w4:=⟨_,rfl⟩
 rw[hU]at RK;rw[hU,kJ]at Mu;have HW:=Hh (And.intro hU kJ);clear hU kJ hA;go_upto_region 4 with fail
 try rw[HW.out.1]
 try rw[HW.out.2]
 clear HW;have g3:w4.cell? ⟨w.heap.size,3,none⟩=some (.slice a.ma ml a.mc):=by obtain⟨_,_,_,hA⟩:=Mu;exact hA.grp.cell 3 rfl
 go_wp2_with fail
 clear g3;have Z6:Hid ((ml:Int)≤16):=by have h:=GD.out.few;have h2:=HN.out.2.2;rw[Hid];omega
 have H0:Hid (¬ pT (g.members.take 0) m):=by rintro⟨o,ho,_⟩;rw[List.take_zero]at ho;cases ho
 go_loopw [29] (fun v29 wr=>∃ j:Nat,v29=.int .i64 (j:Int)∧Hid (j≤ml)∧Hid (¬ pT (g.members.take j) m)∧AEx w U (gpC a.ia il a.ic a.sa sl a.sc g.number a.ma ml a.mc) (yW m.name m.roles m.since b.sa ls b.sc b.ca lc b.cc b.ha lh b.hc b.wa lw b.wc) (g.members.take j) wr) (fun v29 _=>(ml:Int).toNat+1-(intOf v29).toNat)
 case atStart=>exact⟨0,rfl,Nat.zero_le _,H0,Mu⟩
 case round =>
 clear Mu H0;obtain⟨j,rfl,HJ,RH,vs,FW,hU,hA⟩:=hrel;have J0:=Hh FW;clear FW
 by_cases zB:(j:Int)<(ml:Int)
 ·have uU:j<g.members.length:=by rw[← HN.out.2.2];omega
  obtain⟨gb,go,sG,uF⟩:=HG.out.members.at_ (by omega);obtain⟨d,hd,hc⟩:=uF j uU;obtain⟨xa,hd,th⟩:=hd;subst hd;have wu:g.members[j].sender.length=1:=GD.out.unl.one _ (List.getElem_mem uU);obtain⟨x,hx⟩:∃ x,g.members[j]=x:=⟨_,rfl⟩
  rw[hx]at hc th wu;have Ul:Hid (g.members.take (j+1)=g.members.take j++[x]):=by rw[Hid,← hx];exact List.take_succ_eq_append_getElem uU
  have Mo:Hid (x∈g.members):=by rw[Hid,← hx];exact List.getElem_mem uU
  have yB:=HH.out.below hA.below (Nat.le_refl _);obtain⟨r0,r1,r2,r3,r4,r5,r6⟩:=jfy
  simp only[vQ,Nat.add_zero,Nat.zero_add,← Nat.add_assoc]at r0 r1 r2 r3 r4 r5 r6
  obtain⟨xb,xo,ZF,bg⟩:=th.sender.at_ (by omega);have WR:=bg 0 (by omega);have Rk:x.sender[0]'(by omega)=ed x:=by have h:=Ws wu;simp only[h];rfl
  rw[Rk]at WR
  simp only[Nat.add_zero]at WR
  rw[ZF]at r1;obtain⟨sn,oN⟩:∃ n,x.sender.length=n:=⟨_,rfl⟩
  rw[oN]at r1 wu;have qS:=Hh th;have hQ:=jgQ;replace hA:=hA.alloc (.cells (yW x.name x.roles x.since (some ⟨xb,xo,none⟩) sn xa.sc xa.ca x.cred.length xa.cc xa.ha x.share.length xa.hc xa.wa x.wrap.length xa.wc) 27);replace hU:=hU.alloc (.cells (yW x.name x.roles x.since (some ⟨xb,xo,none⟩) sn xa.sc xa.ca x.cred.length xa.cc xa.ha x.share.length xa.hc xa.wa x.wrap.length xa.wc) 27);obtain⟨Q,qg⟩:∃ Q,wr.heap.size=Q:=⟨_,rfl⟩
  obtain⟨w6,my⟩:∃ w6,wr.alloc (.cells (yW x.name x.roles x.since (some ⟨xb,xo,none⟩) sn xa.sc xa.ca x.cred.length xa.cc xa.ha x.share.length xa.hc xa.wa x.wrap.length xa.wc) 27)=w6:=⟨_,rfl⟩
  rw[qg,my]at hQ;rw[my]at hA hU;have rp:=Hh (And.intro qg my);have oH:(j:Int)+1≤9223372036854775807:=by have:=Z6.out;omega
  obtain⟨wT,gk⟩:=jhF;have g1:(0:Int)<(sn:Int):=by omega
  have Bl:=Hh WR;clear qg my uF hc th uU yB hx ZF oN wu bg Rk WR;rw[sG];go_upto_region 7 with fail
  try rw[rp.out.1]
  try rw[rp.out.2]
  clear r0 r1 r2 r3 r4 r5 r6 sG rp;have Ra:=HH.out.below hA.below (Nat.le_refl _);have q0:=hQ.cell 0 rfl;have m0:=hA.mem.cell 0 rfl;have TW:Hid (x.name=m.name∨x.cred=m.cred∨x.wrap=m.wrap→AdmP sP g m 7 vR []):=fun h=>.twice ARG.out ⟨x,Mo.out,h⟩
  by_cases hq:x.name=m.name
  ·obtain⟨f1,f2,f3⟩:=uV hq;have NO:=Hh (TW.out (.inl hq));clear hq hQ Ra;exact jaw
  obtain⟨f1,f2,f3⟩:=tR hq;have Gn:=Hh hq;have q3:=hQ.cell 3 rfl;have m3:=hA.mem.cell 3 rfl;have k1:=xI (Src.of_row qS.out.cred.row Ra) x.cred.length xa.cc rfl;have k2:=xI (Src.of_row HM.out.cred.row Ra) lc b.cc HL.out.2.1;clear hq
  by_cases hq:x.cred=m.cred
  ·have b1:(x.cred=m.cred)=True:=eq_true hq;have b2:((x.cred:List UInt8)==m.cred)=true:=by simpa using hq
   have NO:=Hh (TW.out (.inr (.inl hq)));clear hq hQ Ra;exact jaw
  have b1:(x.cred=m.cred)=False:=eq_false hq;have b2:((x.cred:List UInt8)==m.cred)=false:=by simpa using hq
  have Gq:=Hh hq;have q5:=hQ.cell 5 rfl;have m5:=hA.mem.cell 5 rfl;have k3:=xI (Src.of_row qS.out.wrap.row Ra) x.wrap.length xa.wc rfl;have k4:=xI (Src.of_row HM.out.wrap.row Ra) lw b.wc HL.out.2.2.2;clear hq
  by_cases hq:x.wrap=m.wrap
  ·have b3:(x.wrap=m.wrap)=True:=eq_true hq;have b4:((x.wrap:List UInt8)==m.wrap)=true:=by simpa using hq
   have NO:=Hh (TW.out (.inr (.inr hq)));clear hq hQ Ra;exact jaw
  have b3:(x.wrap=m.wrap)=False:=eq_false hq;have b4:((x.wrap:List UInt8)==m.wrap)=false:=by simpa using hq
  have O0:Hid (¬ pT (g.members.take (j+1)) m):=by
   rw[Ul.out];rintro⟨o,ho,h⟩
   rcases List.mem_append.1 ho with ho | ho
   ·exact RH.out ⟨o,ho,h⟩
   rw[List.mem_singleton.1 ho]at h
   rcases h with h | h | h
   ·exact Gn.out h
   ·exact Gq.out h
   exact hq h
  clear hq;go_upto_region 9 with fail
  clear f1 f2 f3 b1 b2 b3 b4 k1 k2 k3 k4 q0 q3 q5 m0 m3 m5;have q1:=jh2;have x0:=Ra.cell Bl.out;clear Ra hQ;go_wp2_with fail
  refine(Qd J0.out (ed x) U w6 hU).mono ?_
  rintro e w7 ⟨rfl,Ej,yQ⟩
  have Mu:AEx w U (gpC a.ia il a.ic a.sa sl a.sc g.number a.ma ml a.mc) (yW m.name m.roles m.since b.sa ls b.sc b.ca lc b.cc b.ha lh b.hc b.wa lw b.wc) (g.members.take (j+1)) w7:=⟨bG vs (ed x),by rw[Ul.out,List.map_append];exact J0.out.add _,Ej,hA.setU RK.out yQ⟩
  clear hU hA Ej yQ q1 x0;go_wp2_with fail
  go_roundw
  case rel=>exact⟨j+1,by go_num,(by have:=wT.out.2;exact(show j+1≤ml by omega)),O0,(by rw[← gk.out];exact Mu)⟩
  case measure=>have:=wT.out.2;simp[intOf];omega
 have NG:j=g.members.length:=by have:=HN.out.2.2;have:=HJ.out;omega
 have oP:Hid (¬ pT g.members m):=by have h:=RH.out;rw[NG,List.take_length]at h;exact h
 have Bk:Hid (SetIs vs (g.members.map ed)):=by have h:=J0.out;rw[NG,List.take_length]at h;exact h
 clear NG J0 RH HJ;have g3:=hA.grp.cell 3 rfl
 by_cases uS:(16:Int)≤(ml:Int)
 ·have NO:Hid (AdmP sP g m 16 vR []):=.full ARG.out oP.out (by have:=HN.out.2.2;omega);exact jaw
 have RD:=Hh uS;have g2:=hA.grp.cell 2 rfl
 by_cases hx:g.number=65535
 ·obtain⟨e1,e2,e3⟩:=zK hx;have NO:=jhI;clear hx;exact jaw
 obtain⟨e1,e2,e3⟩:=xt hx;have HX:=Hh hx;clear hx;go_upto_region 15 with fail
 clear e1 e2 e3 g2 g3 uS zB;obtain⟨g0,g1,g2,g3⟩:=jgA;go_wp2_with fail
 refine(C.out _ (HH.out.below hA.below (Nat.le_refl _))).mono ?_
 rintro e w8 ⟨A,c,B,d,v,Hr,rfl,lW,JG,Eb,qT,P4⟩
 have UL:=Hh (And.intro JG Eb);obtain⟨VA,vc,rfl,bf,vJ⟩:=qT.form;rw[← HN.out.1,← HN.out.2.1,← HN.out.2.2];rw[← HN.out.2.2]at bf qT P4
 have hF:FS w H U (oJ vs) (yW m.name m.roles m.since b.sa ls b.sc b.ca lc b.cc b.ha lh b.hc b.wa lw b.wc) (gpC A il c B sl d g.number VA ml vc) w8.heap.size (.slice VA ml vc) g.members (w8.alloc (.cells (gpC A il c B sl d g.number VA ml vc) 25)) Hr:=by
  have pN:=(Grows.of_below HH.out hA.below).trans lW;have ET:=hA.belowX lW.below
  exact⟨pN.alloc _,ET.mem.alloc _,ET.res.alloc _,(hU.below lW.below).alloc _,RK.out,Blk.new _ _ _,(hU.below lW.below).lt,lW.none (HH.out.none_of_ge (by omega)) hA.mem.lt,lW.none (HH.out.none_of_ge (by omega)) hA.res.lt,lW.holds.none_of_ge (Nat.le_refl _),(qT.more hU.lt).alloc _,fun e=>by have:=(qT.lt _ e).2;omega,P4⟩
 obtain⟨P,uT⟩:∃ P,w8.heap.size=P:=⟨_,rfl⟩
 obtain⟨w5,Yy⟩:∃ w5,w8.alloc (.cells (gpC A il c B sl d g.number VA ml vc) 25)=w5:=⟨_,rfl⟩
 rw[uT,Yy]at hF;have HW:=Hh (And.intro uT Yy);have kw:=jfV;clear uT Yy JG Eb qT P4 lW g0 g1 g2 g3 C hA hU vJ bf;go_upto_region 16 with fail
 try rw[HW.out.1]
 try rw[HW.out.2]
 clear HW;have p2:=hF.var.cell 2 rfl;go_wp2_with (with_reducible refine zx ?_)
 refine zu rfl _ _ _ rfl rfl P 2 (.int .i64 (g.number+1)) rfl rfl _ _ hF.var (by kernel_rfl) (by simp) rfl fun w6 Yr tg=>?_
 replace hF:=hF.setP (pc':=gpC A il c B sl d (g.number+1) VA ml vc) Yr tg;clear p2 Yr tg kw;obtain⟨num,rj⟩:∃ num,g.number+1=num:=⟨_,rfl⟩
 rw[rj]at hF⊢;have eR:Hid (num=g.number+1∧-9223372036854775808≤num∧num≤9223372036854775807):=by have h1:=GD.out.num0;have h2:=GD.out.num1;rw[Hid];omega
 clear rj;go_upto_region 17 with fail
 have m0:=hF.mem.cell 0 rfl;have m1:=hF.mem.cell 1 rfl;have m2:=hF.mem.cell 2 rfl;have m3:=hF.mem.cell 3 rfl;have m4:=hF.mem.cell 4 rfl;have m5:=hF.mem.cell 5 rfl;have m6:=hF.mem.cell 6 rfl;go_wp2_with fail
 refine(MM.out _ _ hF.grows.le hF.grows.holds).mono ?_
 rintro e w7 ⟨a3,H3,rfl,xp,ry⟩
 replace hF:=hF.grow xp;have Gg:=Hh ry;rw[y7,← HL.out.1,← HL.out.2.1,← HL.out.2.2.1,← HL.out.2.2.2];have KO:=Hh xp.le;clear xp ry m0 m1 m2 m3 m4 m5 m6 MM;go_wp2_with (with_reducible refine zx ?_)
 refine zv rfl _ _ _ rfl rfl _ _ rfl rfl _ _ hF.mem o9 rfl (Tm _ _ _ _ _ _ _ rfl rfl rfl rfl rfl rfl rfl) fun w9 iI yO=>?_
 replace hF:=hF.setM (mc':=yW m.name m.roles m.since a3.sa ls a3.sc a3.ca lc a3.cc a3.ha lh a3.hc a3.wa lw a3.wc) iI yO;clear iI yO;go_upto_region 18 with fail
 go_cut [] (fun wx=>∃ (n:UInt8) (L:Nat) (H1:Snap),FS w H U (oJ vs) (yW m.name m.roles num (some ⟨L,0,none⟩) 1 1 a3.ca lc a3.cc a3.ha lh a3.hc a3.wa lw a3.wc) (gpC A il c B sl d num VA ml vc) P (.slice VA ml vc) g.members wx H1∧IsBytes H1 (some ⟨L,0,none⟩) 1 [n]∧FreeB (g.members.map ed) n∧H3.le H1)
 case first =>
  replace hF:=hF.drew;have xO:=Snap.le.refl H3
  refine zj 8 (fun wx=>wx.cell? ⟨P,2,none⟩=some (.int .i64 num)) (by kernel_rfl) (hF.var.cell 2 rfl) (fun zy=>?_)
  refine TkS 2 rfl zy ?_
  refine TkS 3 rfl zy ?_
  refine To 0 rfl fun K hK=>?_
  go_simp
  refine(T3 Bk.out (by rw[List.length_map];have:=GD.out.few;omega) U _ hF.used).mono ?_
  rintro e w0 ⟨n0,rfl,iO,rfl⟩
  refine Ko hK ?_ fun zy=>?_
  ·exact hF.var.cell 2 rfl
  clear hK K
  refine To 1 rfl fun K hK=>?_
  go_simp
  obtain⟨H2,zM,sH,vJ⟩:=Fresh.snapB hF.grows.holds (Fresh.lit _ [n0] #[zT n0] 1 rfl (by simp) rfl);have hF:=hF.grow zM;have xO:=xO.trans zM.le;clear vJ zM
  refine Ko hK ?_ fun zy=>?_
  ·exact hF.var.cell 2 rfl
  clear hK K
  refine TkS 4 rfl zy ?_
  refine To 5 rfl fun K hK=>?_
  refine yw _ _ _ rfl (w.heap.size+1) 1 _ rfl rfl _ _ hF.mem (by kernel_rfl) (by simp) rfl fun w5 qc te=>?_
  have hF:=hF.setM qc te;clear qc te;go_simp
  refine Ko hK ?_ fun zy=>?_
  ·exact hF.var.cell 2 rfl
  clear hK K
  refine TkS 6 rfl zy ?_
  refine To 7 rfl fun K hK=>?_
  refine yw _ _ _ rfl (w.heap.size+1) 6 (.int .i64 num) rfl rfl _ _ hF.mem (by kernel_rfl) (by simp) rfl fun w7 mr yQ=>?_
  have hF:=hF.setM mr yQ;clear mr yQ;go_simp
  refine Ko hK ?_ fun zy=>?_
  ·exact hF.var.cell 2 rfl
  clear hK K
  refine Wd ?_
  clear zy;go_wp2_with fail
  go_meet
  exact⟨_,_,_,hF,sH,iO,xO⟩
 case rest =>
 clear hF;obtain⟨n,L,H1,hF,sZ,iO,xO⟩:=hcut;have GX:=Hh iO;rw[HL.out.2.1,HL.out.2.2.1,HL.out.2.2.2]at hF;obtain⟨m',ZD⟩:∃ m':Mb,m'={ m with sender:=[n],since:=num }:=⟨_,rfl⟩
 obtain⟨mb',bL⟩:∃ mb':MAd,mb'={ a3 with sa:=some ⟨L,0,none⟩,sc:=1 }:=⟨_,rfl⟩
 replace hF:FS w H U (oJ vs) (y7 m' mb') (gpC A il c B sl d num VA ml vc) P (.slice VA ml vc) g.members wc H1:=by rw[ZD,bL];exact hF
 have Ga:=Hh sZ
 have qS:Hid (MemA H1 m' mb'):=by
  rw[ZD,bL];have h:=Gg.out
  exact⟨h.name,sZ,h.cred.mono xO,h.share.mono xO,h.wrap.mono xO,by show [n].length≤1099511;simp,h.small.2⟩
 have Oj:Hid (m'={ m with sender:=[n],since:=g.number+1 }):=by rw[Hid,ZD,eR.out.1]
 have Gt:Hid (mb'.sa=some ⟨L,0,none⟩∧m'.sender.length=1∧mb'.sc=1):=by rw[Hid,ZD,bL];exact⟨rfl,rfl,rfl⟩
 have KJ:Hid (IsBytes H1 A c g.id∧IsBytes H1 B d g.secret):=⟨UL.out.1.mono (KO.out.trans xO),UL.out.2.mono (KO.out.trans xO)⟩
 clear sZ ZD bL xO iO;have q0:=hF.mem.cell 0 rfl;have q1:=hF.mem.cell 1 rfl;have q2:=hF.mem.cell 2 rfl;have q3:=hF.mem.cell 3 rfl;have q4:=hF.mem.cell 4 rfl;have q5:=hF.mem.cell 5 rfl;have q6:=hF.mem.cell 6 rfl;have p3:=hF.var.cell 3 rfl;go_wp2_with (at_builtin;refine yq ?_)
 unfold z8
 replace hF:=hF.alloc (.cells (y7 m' mb') 27)
 refine OwnX.append rfl (.tmp 87) (.tmp 89) 23 rfl Tryz.underlying23 rfl (by omega) rH rfl hF.own _ 1 _ (y7 m' mb').toList [m'] rfl rfl (RowC.one ⟨mb',rfl,qS.out⟩) (Src.new _ _ _ _ rfl _ rfl) (by have h2:=Z6.out;have h3:=HN.out.2.2;simp only[List.length_singleton];omega) hF.up fun v8 w8 qT hg8 hat8=>?_
 replace hF:=hF.app qT hg8 hat8;obtain⟨A8,c8,rfl,vJ⟩:=qT.form;obtain⟨l8,f7⟩:∃ l8,g.members++[m']=l8:=⟨_,rfl⟩
 have UM:Hid (l8=g.members++[m']∧l8.length≤17):=by rw[← f7];have h2:=Z6.out;have h3:=HN.out.2.2;rw[Hid,List.length_append,List.length_singleton];exact⟨rfl,by omega⟩
 rw[f7]at hF⊢;obtain⟨m8,f9⟩:∃ n,l8.length=n:=⟨_,rfl⟩
 have Ll:=Hh f9;rw[f9]at hF⊢;clear qT hg8 hat8 vJ f7 f9 q0 q1 q2 q3 q4 q5 q6 p3;go_wp2_with (with_reducible refine zx ?_)
 refine zu rfl _ _ _ rfl rfl P 3 (.slice A8 m8 c8) rfl rfl _ _ hF.var (by kernel_rfl) (by simp) rfl fun w9 hP9 yO=>?_
 replace hF:=hF.setP (pc':=gpC A il c B sl d num A8 m8 c8) hP9 yO;clear hP9 yO;obtain⟨H9,vy,qb,eE,ZA,fA⟩:=hF.freeze;have bT:=Hh (And.intro eE (And.intro ZA qb));have hT:=hF.res;have hV:=hF.var;have hM:Blk w9 (w.heap.size+1) 27 (y7 m' mb'):=hF.mem;have B8:Hid (w.heap.size+4≤P):=by have:=hF.far;have:=hF.farU;rw[Hid];omega
 have el:w9.cell? ⟨w.heap.size+1,1,none⟩=some (.slice (some ⟨L,0,none⟩) 1 1):=by
  have h:w9.cell? ⟨w.heap.size+1,1,none⟩=some (.slice mb'.sa m'.sender.length mb'.sc):=hM.cell 1 rfl;rw[Gt.out.1,Gt.out.2.1,Gt.out.2.2]at h
  exact h
 clear hF eE ZA qb hM;go_upto_region 20 with fail
 replace hT:=hT.below (Below.refl _ _).drew;replace hV:=hV.below (Below.refl _ _).drew;replace el:=nl el (Below.refl _ _).drew;replace vy:=vy.drew;have qb:=Snap.le.refl H9
 refine zX 4 (fun wx=>wx.cell? ⟨P,0,none⟩=some (.slice A il c)∧wx.cell? ⟨P,1,none⟩=some (.slice B sl d)∧wx.cell? ⟨P,2,none⟩=some (.int .i64 num)∧wx.cell? ⟨P,3,none⟩=some (.slice A8 m8 c8)∧wx.cell? ⟨w.heap.size+1,1,none⟩=some (.slice (some ⟨L,0,none⟩) 1 1)) (by kernel_rfl) (⟨hV.cell 0 rfl,hV.cell 1 rfl,hV.cell 2 rfl,hV.cell 3 rfl,el⟩) (fun zy=>?_)
 refine Zk 0 rfl zy ?_
 refine Zk 1 rfl zy ?_
 refine Zk 2 rfl zy ?_
 refine Zo 3 rfl fun K hK=>?_
 go_simp
 refine(vD (c:=1) (l:=[n]) rfl (by simp) _ (Src.of_row ((Ga.out.mono bT.out.2.2).mono qb).row vy.holds)).mono ?_
 rintro e w3 ⟨r3,rfl,XC⟩
 obtain⟨A3,c3,rfl,IM⟩:=XC.own.form;obtain⟨GM,sK,bJ,G2⟩:=Fresh.snapB vy.holds XC;have fA:=sK.none fA hT.lt;have hT:=hT.below sK.below;have hV:=hV.below sK.below;have el:=nl el sK.below;have vy:=vy.trans sK;have qb:=qb.trans sK.le;have bF:=Hh bJ;clear IM G2 XC sK bJ
 refine Ko hK ?_ fun zy=>?_
 ·exact⟨hV.cell 0 rfl,hV.cell 1 rfl,hV.cell 2 rfl,hV.cell 3 rfl,el⟩
 clear hK K
 refine Zo 4 rfl fun K hK=>?_
 refine zD _ _ _ rfl _ _ rfl rfl _ _ hT zp rfl (yG _ _ _ _ rfl rfl rfl rfl) fun w4 uz rW=>?_
 have vy:=vy.grownOwn fA (by omega) rW;have hV:=hV.grown rW (by intro e;injection e with e;have:=B8.out;omega);clear rW;go_simp
 refine Kz hK ?_
 clear hK K
 refine ZkT 5 rfl (fun h=>absurd h (by decide)) ?_
 refine ZkT 6 rfl (fun h=>absurd h (by decide)) ?_
 refine WaysZ.done (by kernel_rfl) ?_
 clear zy hV el;go_wp2_with fail
 refine yh rfl rfl uz rfl rfl zp rfl ?_
 exact⟨cZ g m n,⟨A,c,B,d,A8,c8⟩,_,A3,c3,[n],0,by rw[show cZ g m n=⟨g.id,g.secret,num,l8⟩ by rw[cZ,UM.out.1,Oj.out,eR.out.1]];show Ending.returned _=Ending.returned (.tuple #[.agg (gpC A g.id.length c B g.secret.length d num A8 l8.length c8),_,_]);rw[Ll.out,← HN.out.1,← HN.out.2.1];rfl,vy,⟨(KJ.out.1.mono bT.out.2.2).mono qb,(KJ.out.2.mono bT.out.2.2).mono qb,by show _≤g.number+1∧g.number+1≤_;have:=eR.out;omega,by rw[show(cZ g m n).members=l8 by rw[UM.out.1,Oj.out];rfl];exact bT.out.2.1.mono qb,HG.out.small.1,HG.out.small.2.1,by rw[show(cZ g m n).members=l8 by rw[UM.out.1,Oj.out];rfl];have:=UM.out.2;omega⟩,bF.out,.ok n ARG.out oP.out (by have:=HN.out.2.2;have:=RD.out;omega) HX.out (GX.out.members GD.out.unl.one)⟩
structure XF (W0:World) (H:Snap) (tb tt tv:TypeId) (bc tc vc:Array Value) (P:Nat) (v:Value) (l:List Mb) (w:World):Prop where
 below:Below W0.heap.size W0 w
 box:Blk w W0.heap.size tb bc
 res:Blk w (W0.heap.size+1) tt tc
 var:Blk w P tv vc
 far:W0.heap.size+2≤P
 own:OwnX vQ 27 w (P+1) v H l
section
variable {W0 w w':World} {H:Snap} {tb tt tv:TypeId} {bc tc vc vc':Array Value} {P:Nat} {v v':Value} {l l':List Mb}
theorem XF.belowX (h:XF W0 H tb tt tv bc tc vc P v l w) (k:Below w.heap.size w w'):XF W0 H tb tt tv bc tc vc P v l w' :=
 ⟨h.below.trans (k.mono h.below.size),h.box.below k,h.res.below k,h.var.below k,h.far,h.own.below k⟩
theorem XF.alloc (h:XF W0 H tb tt tv bc tc vc P v l w) (o:Obj):XF W0 H tb tt tv bc tc vc P v l (w.alloc o):=h.belowX (zm w o)
theorem XF.app (h:XF W0 H tb tt tv bc tc vc P v l w) (hO:OwnX vQ 27 w' (P+1) v' H l') (hg:w.grownBy w' v.ownBlock):XF W0 H tb tt tv bc tc vc P v' l' w' :=
 ⟨h.below.grown hg h.below.size (fun q hq=>by have:=(h.own.lt q hq).1;have:=h.far;omega),h.box.grown hg (fun e=>by have:=(h.own.lt _ e).1;have:=h.far;omega),h.res.grown hg (fun e=>by have:=(h.own.lt _ e).1;have:=h.far;omega),h.var.grown hg (fun e=>by have:=(h.own.lt _ e).1;omega),h.far,hO⟩
theorem XF.set (h:XF W0 H tb tt tv bc tc vc P v l w) (hB:Blk w' P tv vc') (hg:w.grownBy w' (some P)):XF W0 H tb tt tv bc tc vc' P v l w' :=
 ⟨h.below.grown hg h.below.size (by rintro q ⟨⟩;have:=h.far;omega),h.box.grown hg (by intro e;injection e with e;have:=h.far;omega),h.res.grown hg (by intro e;injection e with e;have:=h.far;omega),hB,h.far,h.own.kept hg (by
  cases hv:v.ownBlock with
  | none=>exact .inl rfl
  | some g=>exact .inr (by intro e;injection e with e;have:=(h.own.lt g hv).1;omega))⟩
theorem XF.base (h:XF W0 H tb tt tv bc tc vc P v l w):P+1≤w.heap.size:=h.var.lt
end
def XFe (W0:World) (H:Snap) (tb tt tv:TypeId) (bc tc:Array Value) (vc:Value→Array Value) (P:Nat) (l:List Mb) (w:World):Prop:=∃ v,XF W0 H tb tt tv bc tc (vc v) P v l w
def oY (name:ByteArray) (m:Mb):Bool:=decide (m.name≠name)
theorem VN {l:List Mb}{j:Nat}(hj:j<l.length) (name:ByteArray):(l.take (j+1)).filter (oY name)=(l.take j).filter (oY name)++(if l[j].name=name then [] else [l[j]]):=by
 rw[List.take_succ_eq_append_getElem hj,List.filter_append];congr 1
 by_cases h:l[j].name=name
 ·rw[if_pos h,List.filter_cons,if_neg (by simp[oY,h])];rfl
 rw[if_neg h,List.filter_cons,if_pos (by simp[oY,h])];rfl
theorem aS {l:List Mb}{name:ByteArray}:(l.filter (oY name)).length=l.length↔∀ m∈l,m.name≠name:=by
 rw[List.length_filter_eq_length_iff]
 simp[oY]
theorem OwnX.freezeAtM {α:Type}{L:Lie α}{t:TypeId}{W0 w:World}{H:Snap}{A:Option Addr}{m c P:Nat}{l:List α}(hH:Holds W0 H) (hb:Below W0.heap.size W0 w) (hP:W0.heap.size≤P) (h:OwnX L t w P (.slice A m c) H l):∃ H',Grows W0 H w H'∧IsRow L H' A c l∧m=l.length∧∀ g,W0.heap.size≤g→g<P→H' g=none:=by
 obtain⟨H',hl,hh,hf,hn,hi⟩:=h.snap (hH.below hb (Nat.le_refl _)) (fun g hg=>hH.none_of_ge (by have:=(h.lt g (by cases A <;> simp_all [Value.ownBlock])).1;omega))
 refine⟨H',⟨hb,hl,hh,fun b o N6=>?_⟩,hi,hn,fun g h1 h2=>?_⟩
 ·rcases hf b o N6 with h1 | h1
  ·exact .inl h1
  exact .inr (by have:=(h.lt b (by cases A <;> simp_all [Value.ownBlock])).1;omega)
 cases hz:H' g with
 | none=>rfl
 | some o =>
 rcases hf g o hz with h3 | h3
 ·rw[hH.none_of_ge h1]at h3;cases h3
 have:=(h.lt g (by cases A <;> simp_all [Value.ownBlock])).1
 omega
theorem nf {sP:Mb→Bool}{H:Snap}(hS:SoundIsR sP H) {g:Gp}{a:EAd}(hg:GpA H g a) (name:ByteArray) (w:World) (hH:Holds w H) :
  Calls Tryz.prog 19 #[.agg (gpQ g a),.string name] w (qG sP w H g name):=by
 have V:Hid (∀ wx,Holds wx H→Calls Tryz.prog 12 #[.agg (gpC a.ia g.id.length a.ic a.sa g.secret.length a.sc g.number a.ma g.members.length a.mc)] wx (wk sP wx g)):=fun wx hx=>rL hS hg wx hx
 have C:Hid (∀ wx,Holds wx H→Calls Tryz.prog 39 #[.agg (gpC a.ia g.id.length a.ic a.sa g.secret.length a.sc g.number a.ma g.members.length a.mc)] wx (CopyG wx H g a)):=fun wx hx=>o4 hg wx hx
 have HG:=Hh hg;have HH:=Hh hH;obtain⟨il,tL⟩:∃ n,n=g.id.length:=⟨_,rfl⟩
 obtain⟨sl,sJ⟩:∃ n,n=g.secret.length:=⟨_,rfl⟩
 obtain⟨ml,tP⟩:∃ n,n=g.members.length:=⟨_,rfl⟩
 have HN:=jf2;show Calls Tryz.prog 19 #[.agg (gpC a.ia g.id.length a.ic a.sa g.secret.length a.sc g.number a.ma g.members.length a.mc),.string name] w (qG sP w H g name)
 rw[← tL,← sJ,← tP]at V C⊢;obtain⟨hB,hT⟩:=jfK;rw[zh]at hT;have hb:=((zm w (.cells (gpC a.ia il a.ic a.sa sl a.sc g.number a.ma ml a.mc) 25)).alloc (zm w (.cells (gpC a.ia il a.ic a.sa sl a.sc g.number a.ma ml a.mc) 25)).size (.cells yf 25))
 have BAD:Hid (∀ (wx:World) (n:Int),Below w.heap.size w wx→ExcP sP g name n vR→qG sP w H g name (.returned (.tuple #[.agg yf,.int .i64 n])) wx):=fun wx n h2 h3=>⟨vR,⟨none,0,none,0,none,0⟩,H,n,rfl,Grows.of_below HH.out h2,oB H,h3⟩
 obtain⟨g0,g1,g2,g3⟩:=jg2;clear tL sJ tP hg hH hS;go_enter Tryz.func19,Tryz.ntmps19
 go_upto_region 1 with fail
 generalize (w.alloc (.cells (gpC a.ia il a.ic a.sa sl a.sc g.number a.ma ml a.mc) 25)).alloc (.cells yf 25)=w1 at hB hT hb g0 g1 g2 g3⊢
 go_wp2_with fail
 refine(V.out _ (HH.out.below hb (Nat.le_refl _))).mono ?_
 rintro e w2 ⟨b2,rfl,kH,zC⟩
 replace hB:=hB.below zC;replace hT:=hT.below zC;replace hb:=hb.trans (zC.mono hb.size);have HA:=Hh kH;clear zC kH V g0 g1 g2 g3
 cases b2 with
 | false =>
  have NO:Hid (ExcP sP g name 1 vR):=.arg fun h=>by have h2:=HA.out.2 h;cases h2
  clear hB;go_wp2_with (with_reducible refine zx ?_)
  refine zv rfl _ _ _ rfl rfl _ _ rfl rfl _ _ hT zp rfl (yG _ _ _ _ rfl rfl rfl rfl) fun w9 xr yO=>?_
  have uP:=hb.grown yO hb.size (by rintro q ⟨⟩;omega);clear hT hb yO;exact jaP
 | true =>
 simp only[Bool.not_true]
 have GD:=Hh (HA.out.1 rfl);clear HA;obtain⟨g0,g1,g2,g3⟩:=jg2;go_wp2_with fail
 refine(C.out _ (HH.out.below hb (Nat.le_refl _))).mono ?_
 rintro e w3 ⟨v,rfl,je,xy⟩
 obtain⟨VA,vc,rfl,vJ⟩:=je.form;replace hB:=hB.below xy;replace hT:=hT.below xy;replace hb:=hb.trans (xy.mono hb.size);rw[← HN.out.1,← HN.out.2.1,← HN.out.2.2];clear vJ je xy g0 g1 g2 g3 C;have hP:=Blk.new w3 25 (gpC a.ia il a.ic a.sa sl a.sc g.number VA ml vc);have pw:=hT.lt;replace hB:=hB.alloc (.cells (gpC a.ia il a.ic a.sa sl a.sc g.number VA ml vc) 25);replace hT:=hT.alloc (.cells (gpC a.ia il a.ic a.sa sl a.sc g.number VA ml vc) 25);replace hb:=hb.alloc hb.size (.cells (gpC a.ia il a.ic a.sa sl a.sc g.number VA ml vc) 25);obtain⟨P,uT⟩:∃ P,w3.heap.size=P:=⟨_,rfl⟩
 obtain⟨w4,kJ⟩:∃ w4,w3.alloc (.cells (gpC a.ia il a.ic a.sa sl a.sc g.number VA ml vc) 25)=w4:=⟨_,rfl⟩
 rw[uT,kJ]at hP;rw[kJ]at hB hT hb;rw[uT]at pw;have HW:=Hh (And.intro uT kJ);clear uT kJ;go_upto_region 4 with fail
 try rw[HW.out.1]
 try rw[HW.out.2]
 clear HW;go_wp2_with (with_reducible refine zx ?_)
 refine zu rfl _ _ _ rfl rfl P 3 (.slice none 0 0) rfl rfl _ _ hP (by kernel_rfl) (by simp) rfl fun w5 hP5 te=>?_
 have hX:XF w H 25 25 25 (gpC a.ia il a.ic a.sa sl a.sc g.number a.ma ml a.mc) yf #[.slice a.ia il a.ic,.slice a.sa sl a.sc,.int .i64 (g.number),.slice none 0 0] P (.slice none 0 0) [] w5:=⟨hb.grown te hb.size (by rintro q ⟨⟩;omega),hB.gr te (by omega),hT.gr te (by omega),hP5,by omega,OwnX.nil vQ 27 _ (P+1) H⟩
 clear hP hB hT hb te hP5 pw;have g3:=hX.box.cell 3 rfl;go_wp2_with fail
 clear g3;have Z6:Hid ((ml:Int)≤16):=by have h:=GD.out.few;have h2:=HN.out.2.2;rw[Hid];omega
 go_loopw [19] (fun v19 wr=>∃ j:Nat,v19=.int .i64 (j:Int)∧Hid (j≤ml)∧XFe w H 25 25 25 (gpC a.ia il a.ic a.sa sl a.sc g.number a.ma ml a.mc) yf (fun v=>#[.slice a.ia il a.ic,.slice a.sa sl a.sc,.int .i64 g.number,v]) P ((g.members.take j).filter (oY name)) wr) (fun v19 _=>(ml:Int).toNat+1-(intOf v19).toNat)
 case atStart=>exact⟨0,rfl,Nat.zero_le _,_,hX⟩
 case round =>
 clear hX;obtain⟨j,rfl,HJ,v,hX⟩:=hrel;obtain⟨l,hl⟩:∃ l,(g.members.take j).filter (oY name)=l:=⟨_,rfl⟩
 rw[hl]at hX;have sk:=Hh hl;have Dk:Hid (l.length≤j):=by rw[Hid,← hl];exact Nat.le_trans (List.length_filter_le _ _) (by rw[List.length_take];omega)
 clear hl
 by_cases zB:(j:Int)<(ml:Int)
 ·have uU:j<g.members.length:=by rw[← HN.out.2.2];omega
  obtain⟨gb,go,sG,uF⟩:=HG.out.members.at_ (by omega);obtain⟨d,hd,hc⟩:=uF j uU;obtain⟨ma,hd,th⟩:=hd;subst hd;obtain⟨m,hm⟩:∃ m,g.members[j]=m:=⟨_,rfl⟩
  rw[hm]at hc th;have oQ:Hid ((g.members.take (j+1)).filter (oY name)=l++(if m.name=name then [] else [m])):=by rw[Hid,VN uU,sk.out,hm]
  have yB:=HH.out.below hX.below (Nat.le_refl _);obtain⟨r0,r1,r2,r3,r4,r5,r6⟩:=jfy
  simp only[vQ,Nat.add_zero,Nat.zero_add,← Nat.add_assoc]at r0 r1 r2 r3 r4 r5 r6
  have qS:=Hh th;have hQ:=Blk.new wr 27 (y7 m ma);replace hX:=hX.alloc (.cells (y7 m ma) 27);obtain⟨Q,qg⟩:∃ Q,wr.heap.size=Q:=⟨_,rfl⟩
  obtain⟨w6,my⟩:∃ w6,wr.alloc (.cells (y7 m ma) 27)=w6:=⟨_,rfl⟩
  rw[qg,my]at hQ;rw[my]at hX;have rp:=Hh (And.intro qg my);have oH:(j:Int)+1≤9223372036854775807:=by have:=Z6.out;omega
  obtain⟨wT,gk⟩:=jhF;clear qg my uF hc th uU yB hm;rw[sG];go_upto_region 8 with fail
  try rw[rp.out.1]
  try rw[rp.out.2]
  clear r0 r1 r2 r3 r4 r5 r6 sG rp;have q0:=hQ.cell 0 rfl
  by_cases iu:m.name=name
  ·have mP:Hid ((g.members.take (j+1)).filter (oY name)=l):=by rw[Hid,oQ.out,if_pos iu,List.append_nil]
   obtain⟨f1,f2,f3⟩:=uV iu;clear iu hQ;go_wp2_with fail
   go_roundw
   case rel=>exact⟨j+1,by go_num,(by have:=wT.out.2;exact(show j+1≤ml by omega)),v,(by rw[← gk.out,mP.out];exact hX)⟩
   case measure=>have:=wT.out.2;simp[intOf];omega
  have mP:Hid ((g.members.take (j+1)).filter (oY name)=l++[m]):=by rw[Hid,oQ.out,if_neg iu]
  obtain⟨f1,f2,f3⟩:=tR iu;clear iu;have q1:=jh2;have q2:=hQ.cell 2 rfl;have q3:=hQ.cell 3 rfl;have q4:=hQ.cell 4 rfl;have q5:=hQ.cell 5 rfl;have q6:=hQ.cell 6 rfl;have p3:=hX.var.cell 3 rfl;obtain⟨LA,lc,rfl,vJ⟩:=hX.own.form;obtain⟨ll,lU⟩:∃ n,l.length=n:=⟨_,rfl⟩
  have X7:=Hh lU;rw[lU]at hX p3 vJ;clear hQ vJ lU;go_wp2_with (at_builtin;refine yq ?_)
  unfold z8
  replace hX:=hX.alloc (.cells (y7 m ma) 27)
  refine OwnX.append rfl (.tmp 28) (.tmp 30) 23 rfl Tryz.underlying23 rfl (by omega) rH rfl hX.own _ 1 _ (y7 m ma).toList [m] rfl rfl (RowC.one ⟨ma,rfl,qS.out⟩) (Src.new _ _ _ _ rfl _ rfl) (by have h1:=Dk.out;have h2:=Z6.out;have h3:=wT.out;simp only[List.length_singleton];omega) hX.base fun v8 w8 qT hg8 hat8=>?_
  replace hX:=hX.app qT hg8;obtain⟨A8,c8,rfl,vJ⟩:=qT.form;obtain⟨m8,f9⟩:∃ k,(l++[m]).length=k:=⟨_,rfl⟩
  rw[f9]at hX⊢;clear qT hg8 hat8 vJ f9 q0 q1 q2 q3 q4 q5 q6 p3;go_wp2_with (with_reducible refine zx ?_)
  refine zu rfl _ _ _ rfl rfl P 3 (.slice A8 m8 c8) rfl rfl _ _ hX.var (by kernel_rfl) (by simp) rfl fun w9 hP9 yO=>?_
  replace hX:=hX.set hP9 yO;clear hP9 yO;go_wp2_with fail
  go_roundw
  case rel=>exact⟨j+1,by go_num,(by have:=wT.out.2;exact(show j+1≤ml by omega)),_,(by rw[← gk.out,mP.out];exact hX)⟩
  case measure=>have:=wT.out.2;simp[intOf];omega
 obtain⟨LA,lc,rfl,vJ⟩:=hX.own.form;have RB:Hid (g.members.filter (oY name)=l):=by have h:=sk.out;rw[List.take_of_length_le (by have:=HN.out.2.2;have:=HJ.out;omega)]at h;exact h
 obtain⟨ll,lU⟩:∃ n,l.length=n:=⟨_,rfl⟩
 have X7:=Hh lU;rw[lU]at hX;clear vJ lU;have p3:=hX.var.cell 3 rfl;have g3:=hX.box.cell 3 rfl
 by_cases xO:ll=ml
 ·have e1:((ll:Int)=(ml:Int))=True:=eq_true (by omega);have e2:((ll:Int)==(ml:Int))=true:=beq_iff_eq.2 (by omega);have NO:Hid (ExcP sP g name 38 vR):=.gone GD.out (aS.1 (by rw[RB.out,X7.out,xO,HN.out.2.2]));clear xO;exact jel
 have e1:((ll:Int)=(ml:Int))=False:=eq_false (by omega);have e2:((ll:Int)==(ml:Int))=false:=beq_eq_false_iff_ne.2 (by omega);have g2:=hX.box.cell 2 rfl
 have HE:Hid (∃ m∈g.members,m.name=name):=by
  rw[Hid];apply Classical.byContradiction
  intro iw
  exact xO (by rw[← X7.out,← RB.out,aS.2 (fun m hm e=>iw ⟨m,hm,e⟩),HN.out.2.2])
 clear xO
 by_cases hx:g.number=65535
 ·have e3:(g.number=65535)=True:=eq_true hx;have e4:(g.number==65535)=true:=beq_iff_eq.2 hx;have NO:Hid (ExcP sP g name 8 vR):=.limit GD.out HE.out hx;clear hx;exact jel
 have e3:(g.number=65535)=False:=eq_false hx;have e4:(g.number==65535)=false:=beq_eq_false_iff_ne.2 hx;have HX:=Hh hx;clear hx;have p2:=hX.var.cell 2 rfl;have kw:=jfV;go_wp2_with (with_reducible refine zx ?_)
 refine zu rfl _ _ _ rfl rfl P 2 (.int .i64 (g.number+1)) rfl rfl _ _ hX.var (by kernel_rfl) (by simp) rfl fun w7 Pl yQ=>?_
 replace hX:=hX.set Pl yQ;clear Pl yQ p2 p3 g2 g3 e1 e2 e3 e4 kw;replace hX:XF w H 25 25 25 (gpC a.ia il a.ic a.sa sl a.sc g.number a.ma ml a.mc) yf #[.slice a.ia il a.ic,.slice a.sa sl a.sc,.int .i64 (g.number+1),.slice LA ll lc] P (.slice LA ll lc) l w7:=hX;have p0:=hX.var.cell 0 rfl;have p1:=hX.var.cell 1 rfl;have p2:=hX.var.cell 2 rfl;have p3:=hX.var.cell 3 rfl;obtain⟨H9,vy,ZA,eE,fA⟩:=hX.own.freezeAtM HH.out hX.below (by have:=hX.far;omega);replace fA:=fA (w.heap.size+1) (by omega) (by have:=hX.far;omega);go_wp2_with (with_reducible refine zx ?_)
 refine zv rfl _ _ _ rfl rfl _ _ rfl rfl _ _ hX.res zp rfl (yG _ _ _ _ rfl rfl rfl rfl) fun w9 xr yO=>?_
 have ey:=vy.grownOwn fA (by omega) yO;clear hX vy yO p0 p1 p2 p3;go_wp2_with fail
 refine zw rfl rfl xr rfl rfl zp rfl ?_
 have Lt:Hid (ce g name=⟨g.id,g.secret,g.number+1,l⟩):=by rw[Hid,ce,← RB.out];rfl
 exact⟨ce g name,⟨a.ia,a.ic,a.sa,a.sc,LA,lc⟩,H9,0,by rw[Lt.out,HN.out.1,HN.out.2.1,← X7.out];rfl,ey,by rw[Lt.out];exact⟨HG.out.id.mono ey.le,HG.out.secret.mono ey.le,by have h1:=GD.out.num0;have h2:=GD.out.num1;show(-9223372036854775808:Int)≤g.number+1∧g.number+1≤9223372036854775807;omega,ZA,by have h1:=HG.out.small;have h2:=Dk.out;have h3:=HJ.out;have h4:=Z6.out;exact⟨h1.1,h1.2.1,show l.length≤1099511 by omega⟩⟩,.ok GD.out HE.out HX.out⟩
end Go.Proofs.YtgaoknihklmakabGreatDoor
