/- squeezed. The state of the law of the groups -/
import Derived.Test.YtgaoknihklmakabGreatDoorK18
set_option linter.unusedVariables false
set_option linter.unusedSimpArgs false
set_option maxRecDepth 100000
set_option maxHeartbeats 51200000
namespace Go.Proofs.YtgaoknihklmakabGreatDoor
open Go.RowKit
theorem jaO{P:Prop}(h:P:=by
 go_wp2_with fail
 refine(AW.out _ _ (Snap.le.refl H) (HH.out.below hb (Nat.le_refl _))).mono ?_
 rintro e w9 ⟨rfl,uP⟩
 have yg:=hb.trans (uP.mono hb.size);clear ob y8 hb;go_wp2_with fail
 go_ret
 exact⟨rfl,yg⟩):P:=h
theorem ja5{P:Prop}(h:P:=by
 have uq:=zC.grown yQ zC.size (fun q hq=>(mQ.lt q hq).1);obtain⟨VA',vc',rfl,gS⟩:=vr.form;clear gS yQ hat7 hx mQ zC vY ws;obtain⟨m,hm⟩:∃ m,l++[x]=m:=⟨_,rfl⟩
 have HM:Hid (m.length=k+1):=by have:=HV.out;rw[Hid,← hm,List.length_append];simp;omega
 rw[hm]at vr⊢;clear hm;go_wp2_with fail
 go_roundw
 case rel=>exact⟨k+1,VA',vc',_,m,by have:=oa.out;omega,by go_num,rfl,HM.out,HM.out,vr,uq⟩
 case measure=>have:=oa.out;simp[intOf];omega):P:=h
theorem jbd{P:Prop}(h:P:=by exact⟨hL.b1.cell 0 rfl,hL.b1.cell 1 rfl,hL.b1.cell 2 rfl,hL.b1.cell 3 rfl,hL.b1.cell 4 rfl,hL.b1.cell 5 rfl,hL.b1.cell 6 rfl⟩):P:=h
theorem jdq{P:Prop}(h:P:=by exact⟨hX.blk.cell 0 rfl,hX.blk.cell 1 rfl,hX.blk.cell 2 rfl,hX.blk.cell 3 rfl⟩):P:=h
theorem jd1{P:Prop}(h:P:=by
 go_wp2_with fail
 go_ret
 exact⟨VA,vc,rfl,l,HL.out,vY,ws⟩):P:=h
theorem jfU{P:Prop}(h:P:=by have z0:=hX.blk.cell 0 rfl;have z1:=hX.blk.cell 1 rfl;have z2:=hX.blk.cell 2 rfl;have z3:=hX.blk.cell 3 rfl;exact And.intro z0 (And.intro z1 (And.intro z2 z3))):P:=h
theorem jgn{P:Prop}(h:P:=by have p0:=uR.blk.cell 0 rfl;have p1:=uR.blk.cell 1 rfl;have p2:=uR.blk.cell 2 rfl;have p3:=uR.blk.cell 3 rfl;have o0:=rC.blk.cell 0 rfl;have o1:=rC.blk.cell 1 rfl;have o2:=rC.blk.cell 2 rfl;have o3:=rC.blk.cell 3 rfl;exact And.intro p0 (And.intro p1 (And.intro p2 (And.intro p3 (And.intro o0 (And.intro o1 (And.intro o2 o3))))))):P:=h
theorem DeckIn.keptM {w w':World}{gd:Nat}{Hr:Snap}(h:DeckIn w gd Hr) {Q:Nat}(hn:Hr Q=none) (uy:gd≠Q) (hg:w.grownBy w' (some Q)):DeckIn w' gd Hr:=by
 obtain⟨A,c,l,k,hB,hl,hk⟩:=h.deck
 exact⟨⟨A,c,l,k,hB.grown hg (by intro e;injection e with e;exact uy e.symm),hl,hk⟩,h.holds.grown hg (by rintro q ⟨⟩;exact hn),h.apart⟩
structure LW (W0:World) (H:Snap) (gd:Nat) (rc mc:Array Value) (w:World) (Hr:Snap):Prop where
 grows:Grows W0 H w Hr
 deck:DeckIn w gd Hr
 b0:Blk w W0.heap.size 25 rc
 b1:Blk w (W0.heap.size+1) 27 mc
 wD:W0.heap.size+2≤gd
structure BQ (W0:World) (gd Q:Nat) (t:TypeId) (cs:Array Value) (w:World) (Hr:Snap):Prop where
 blk:Blk w Q t cs
 free:Hr Q=none
 neD:Q≠gd
 wQ:W0.heap.size+2≤Q
section
variable {W0 w w':World} {H Hr Hs:Snap} {gd Q:Nat} {t:TypeId} {rc mc cs cs':Array Value}
theorem LW.step (h:LW W0 H gd rc mc w Hr) (k:Dealt w Hr w' Hs gd):LW W0 H gd rc mc w' Hs :=
 ⟨h.grows.trans_butM k.grows (by have:=h.wD;omega),k.deck,h.b0.dealt k (by have:=h.wD;omega),h.b1.dealt k (by have:=h.wD;omega),h.wD⟩
theorem LW.grow (h:LW W0 H gd rc mc w Hr) (k:Grows w Hr w' Hs):LW W0 H gd rc mc w' Hs:=h.step (h.deck.grows k)
theorem LW.below (h:LW W0 H gd rc mc w Hr) (k:Below w.heap.size w w'):LW W0 H gd rc mc w' Hr:=h.grow (Grows.of_below h.deck.holds k)
theorem LW.alloc (h:LW W0 H gd rc mc w Hr) (o:Obj):LW W0 H gd rc mc (w.alloc o) Hr:=h.below (zm w o)
theorem LW.drew (h:LW W0 H gd rc mc w Hr):LW W0 H gd rc mc w.drew Hr:=h.below (Below.refl _ _).drew
theorem LW.put (h:LW W0 H gd rc mc w Hr) (x:BQ W0 gd Q t cs w Hr) (hg:w.grownBy w' (some Q)):LW W0 H gd rc mc w' Hr :=
 ⟨h.grows.grownOwn x.free (by have:=x.wQ;omega) hg,h.deck.keptM x.free (fun e=>x.neD e.symm) hg,h.b0.grown hg (by intro e;injection e with e;have:=x.wQ;omega),h.b1.grown hg (by intro e;injection e with e;have:=x.wQ;omega),h.wD⟩
theorem LW.new (h:LW W0 H gd rc mc w Hr) (t:TypeId) (cs:Array Value):BQ W0 gd w.heap.size t cs (w.alloc (.cells cs t)) Hr :=
 ⟨Blk.new _ _ _,h.deck.holds.none_of_ge (Nat.le_refl _),by have:=h.deck.deck.lt;omega,by have:=h.b1.lt;omega⟩
theorem BQ.step (x:BQ W0 gd Q t cs w Hr) (k:Dealt w Hr w' Hs gd):BQ W0 gd Q t cs w' Hs:=⟨x.blk.dealt k x.neD,k.hid x.free x.blk.lt,x.neD,x.wQ⟩
theorem BQ.grow (x:BQ W0 gd Q t cs w Hr) (k:Grows w Hr w' Hs):BQ W0 gd Q t cs w' Hs:=⟨x.blk.below k.below,k.none x.free x.blk.lt,x.neD,x.wQ⟩
theorem BQ.below (x:BQ W0 gd Q t cs w Hr) (k:Below w.heap.size w w'):BQ W0 gd Q t cs w' Hr:=⟨x.blk.below k,x.free,x.neD,x.wQ⟩
theorem BQ.alloc (x:BQ W0 gd Q t cs w Hr) (o:Obj):BQ W0 gd Q t cs (w.alloc o) Hr:=x.below (zm w o)
theorem BQ.drew (x:BQ W0 gd Q t cs w Hr):BQ W0 gd Q t cs w.drew Hr:=x.below (Below.refl _ _).drew
end
def UI:Lie Gp where
 k:=4
 pos:=by omega
 E:=fun H g c=>∃ a,c=(gpQ g a).toList∧GpA H g a
 len:=by rintro _ _ _ ⟨_,rfl,_⟩;rfl
 one:=by rintro _ _ _ ⟨_,rfl,_⟩;simp[Value.oneCell']
 mono:=by rintro H K x c hl ⟨a,e,h⟩;exact⟨a,e,h.mono hl⟩
def R1:Lie ByteArray where
 k:=1
 pos:=by omega
 E:=fun _ s c=>c=[.string s]
 len:=by rintro _ _ _ rfl;rfl
 one:=by rintro _ _ _ rfl;simp[Value.oneCell']
 mono:=by rintro H K x c hl h;exact h
def Pa (n:Int) (k:Nat):Int:=bits BinOp.xor IntKind.u8 (IntKind.u64.wrap n/2 ^ (8*(k%8))%256) (37*((k:Int)/8))
def bD (n:Int) (k:Nat):UInt8:=UInt8.ofNat (Pa n k).toNat
def gU (n:Int):List UInt8:=(List.range 32).map (bD n)
theorem nR (n:Int):(gU n).length=32:=by simp[gU]
def SeedIs:Prop:=∀ (n:Int) (w:World),Calls Tryz.prog 25 #[.int .i64 n] w fun e w'=>∃ A c,e=.returned (.slice A 32 c)∧Fresh w (gU n) (.slice A 32 c) w'
theorem SeedIs.said (h:SeedIs):ft:=fun n w=>(h n w).mono fun _ _ ⟨A,c,e,hf⟩=>⟨A,c,_,e,nR n,hf⟩
def S7:Prop:=∀ (q:Int) (n:Nat) (w:World),n≤64→Calls Tryz.prog 24 #[.int .i64 q,.int .i64 (n:Int)] w fun e w'=>∃ A c l,e=.returned (.slice A n c)∧l.length=n∧Fresh w l (.slice A n c) w'
def ZH (w:World) (H:Snap) (gd:Nat) (e:Ending) (w':World):Prop:=∃ x a H',e=.returned (.agg (gpQ x a))∧Dealt w H w' H' gd∧GpA H' x a
def dJ (H:Snap):Prop:=∀ (K:Snap),H.le K→∀ (gd:Nat) (w:World),DeckIn w gd K→Calls Tryz.prog 9 #[.pointer (some ⟨gd,0,none⟩)] w (ZH w K gd)
def Zy (w:World) (e:Ending) (w':World):Prop:=e=.returned (.bool true)∧Below w.heap.size w w'
theorem AdmP.len {sP:Mb→Bool}{g x:Gp}{m:Mb}{q:Int}{s:List UInt8}(h:AdmP sP g m q x s):s.length≤1:=by cases h <;> simp
theorem CreateP.unique {sP:Mb→Bool}{a b:List UInt8}{q r:Int}{x y:Gp}(h:CreateP sP a b q x) (i:CreateP sP a b r y):q=r∧x=y:=by
 exact jdL
def G1 (W0:World) (H:Snap) (gd G:Nat) (rc mc:Array Value) (w:World):Prop:=∃ g a Hr,LW W0 H gd rc mc w Hr∧BQ W0 gd G 25 (gpQ g a) w Hr∧GpA Hr g a
def OEx (W0:World) (H:Snap) (gd:Nat) (rc mc:Array Value) (H1:Snap) (w:World):Prop:=∃ Hr,LW W0 H gd rc mc w Hr∧H1.le Hr
def IEx (W0:World) (H:Snap) (gd X:Nat) (rc mc xc:Array Value) (H1:Snap) (w:World):Prop:=∃ Hr,LW W0 H gd rc mc w Hr∧BQ W0 gd X 25 xc w Hr∧H1.le Hr
theorem iR {sP:Mb→Bool}{H:Snap}(hS:SoundIs sP H) (hR:SoundIsR sP H) (hP:nF sP H) (hSd:SeedIs) (hSm:S7) (pN:dJ H) {raw:Gp}{ra:EAd}(hraw:GpB H raw ra) {m:Mb}{ma:MAd}(hm:MemB H m ma) {A:Option Addr}{c:Nat}{l:List Int}(hl:IsInts H A c l)
  {PA SA:Option Addr} {pc sc:Nat} {px sx:List UInt8} (hpx:IsBytes H PA pc px) (hsx:IsBytes H SA sc sx) (name:ByteArray) (w:World) (hH:Holds w H) :
  Calls Tryz.prog 3 #[.agg (gpQ raw ra),.agg (y7 m ma),.slice A l.length c,.slice PA px.length pc,.slice SA sx.length sc,.string name] w (Zy w):=by
 have AW:Hid (∀ (wx:World) (K:Snap),H.le K→Holds wx K→Calls Tryz.prog 7 #[] wx fun e w'=>e=.returned (.bool true)∧Below wx.heap.size wx w'):=fun wx K h1 h2=>fD (hS.mono h1) (fun L h3=>hP L (h1.trans h3)) hSd.said wx h2
 have NW:=Hh (fun wx=>Nl hl wx);have HS:=Hh hS;have HR:=Hh hR;have HP:=Hh hP;have SD:=Hh hSd;have SM:=Hh hSm;have GR:=Hh pN;have HH:=Hh hH;have Dy:=Hh hraw;have Gh:=Hh hm;have WC:=Hh (And.intro hpx hsx);obtain⟨n,hn⟩:∃ n,l.length=n:=⟨_,rfl⟩
 obtain⟨rl,PG⟩:∃ n,n=raw.id.length:=⟨_,rfl⟩
 obtain⟨rs,Ig⟩:∃ n,n=raw.secret.length:=⟨_,rfl⟩
 obtain⟨rm,Ie⟩:∃ n,n=raw.members.length:=⟨_,rfl⟩
 obtain⟨ls,ZC⟩:∃ n,n=m.sender.length:=⟨_,rfl⟩
 obtain⟨lc,eC⟩:∃ n,n=m.cred.length:=⟨_,rfl⟩
 obtain⟨lh,be⟩:∃ n,n=m.share.length:=⟨_,rfl⟩
 obtain⟨lw,eD⟩:∃ n,n=m.wrap.length:=⟨_,rfl⟩
 obtain⟨pn,Id⟩:∃ n,n=px.length:=⟨_,rfl⟩
 obtain⟨sn,oN⟩:∃ n,n=sx.length:=⟨_,rfl⟩
 have LT:Hid (∀ wx,Holds wx H→Calls Tryz.prog 4 #[.agg (gpC ra.ia rl ra.ic ra.sa rs ra.sc raw.number ra.ma rm ra.mc)] wx fun e w'=>a7 raw e∧Below wx.heap.size wx w'):=fun wx hx=>by rw[PG,Ig,Ie];exact ZT hraw wx hx
 have If:gpQ raw ra=(gpC ra.ia rl ra.ic ra.sa rs ra.sc raw.number ra.ma rm ra.mc):=by rw[PG,Ig,Ie]
 have IY:y7 m ma=(yW m.name m.roles m.since ma.sa ls ma.sc ma.ca lc ma.cc ma.ha lh ma.hc ma.wa lw ma.wc):=by rw[ZC,eC,be,eD]
 have Bc:=Hh If;have Do:=Hh IY;have Mp:=Hh (And.intro Id oN);rw[hn]at NW⊢;rw[If,IY,← Id,← oN];have ob:=(Blk.new w 25 (gpC ra.ia rl ra.ic ra.sa rs ra.sc raw.number ra.ma rm ra.mc)).alloc (.cells (yW m.name m.roles m.since ma.sa ls ma.sc ma.ca lc ma.cc ma.ha lh ma.hc ma.wa lw ma.wc) 27);have y8:=Blk.new (w.alloc (.cells (gpC ra.ia rl ra.ic ra.sa rs ra.sc raw.number ra.ma rm ra.mc) 25)) 27 (yW m.name m.roles m.since ma.sa ls ma.sc ma.ca lc ma.cc ma.ha lh ma.hc ma.wa lw ma.wc);rw[zh]at y8;have hb:=(zm w (.cells (gpC ra.ia rl ra.ic ra.sa rs ra.sc raw.number ra.ma rm ra.mc) 25)).alloc (zm w (.cells (gpC ra.ia rl ra.ic ra.sa rs ra.sc raw.number ra.ma rm ra.mc) 25)).size (.cells (yW m.name m.roles m.since ma.sa ls ma.sc ma.ca lc ma.cc ma.ha lh ma.hc ma.wa lw ma.wc) 27);clear hl hH hS hR hP hSd hSm pN hraw hm hpx hsx hn PG Ig Ie ZC eC be eD Id oN If IY
 go_enter Tryz.func3,Tryz.ntmps3
 go_upto_region 1 with fail
 generalize (w.alloc (.cells (gpC ra.ia rl ra.ic ra.sa rs ra.sc raw.number ra.ma rm ra.mc) 25)).alloc (.cells (yW m.name m.roles m.since ma.sa ls ma.sc ma.ca lc ma.cc ma.ha lh ma.hc ma.wa lw ma.wc) 27)=w1 at ob y8 hb⊢
 have g0:=ob.cell 0 rfl;have g1:=ob.cell 1 rfl;have g2:=ob.cell 2 rfl;have g3:=ob.cell 3 rfl;go_wp2_with fail
 refine(LT.out _ (HH.out.below hb (Nat.le_refl _))).mono ?_
 rintro e w2 ⟨⟨b2,rfl,eZ⟩,h2⟩
 have KQ:=Hh eZ;replace ob:=ob.below h2;replace y8:=y8.below h2;replace hb:=hb.trans (h2.mono hb.size);clear eZ h2 g0 g1 g2 g3 LT
 cases b2 with
 | false =>
  exact jaO
 | true =>
 simp only[Bool.not_true]
 have m0:=y8.cell 0 rfl;have m1:=y8.cell 1 rfl;have m2:=y8.cell 2 rfl;have m3:=y8.cell 3 rfl;have m4:=y8.cell 4 rfl;have m5:=y8.cell 5 rfl;have m6:=y8.cell 6 rfl;obtain⟨H3,yY,Yv,Py⟩:=qr (L:=qu) (l:=[m]) (Grows.of_below HH.out hb) (cs:=[.string m.name,.slice ma.sa ls ma.sc,.int .i64 m.roles,.slice ma.ca lc ma.cc,.slice ma.ha lh ma.hc,.slice ma.wa lw ma.wc,.int .i64 m.since]) (RowC.one (L:=qu) (c:=[.string m.name,.slice ma.sa ls ma.sc,.int .i64 m.roles,.slice ma.ca lc ma.cc,.slice ma.ha lh ma.hc,.slice ma.wa lw ma.wc,.int .i64 m.since]) ⟨ma,by rw[Do.out],Gh.out⟩) 27 (by simp);have MB:=Hh (mX Py (n:=1) rfl _ yY.holds);replace hb:=yY.below;replace ob:=ob.alloc (.cells (yW m.name m.roles m.since ma.sa ls ma.sc ma.ca lc ma.cc ma.ha lh ma.hc ma.wa lw ma.wc) 27);replace y8:=y8.alloc (.cells (yW m.name m.roles m.since ma.sa ls ma.sc ma.ca lc ma.cc ma.ha lh ma.hc ma.wa lw ma.wc) 27)
 clear Py Yv yY;go_wp2_with fail
 refine MB.out.mono ?_
 rintro e w3 ⟨⟨b3,rfl,yH⟩,h3⟩
 have KR:=Hh yH;replace ob:=ob.below h3;replace y8:=y8.below h3;replace hb:=hb.trans (h3.mono hb.size);clear yH h3 m0 m1 m2 m3 m4 m5 m6 MB
 cases b3 with
 | false =>
  exact jaO
 | true =>
 simp only[Bool.not_true]
 obtain⟨H4,xj,MQ,i7⟩:=qr (L:=kE) (l:=[px,sx]) (Grows.of_below HH.out hb) (cs:=[.slice PA pn pc,.slice SA sn sc]) ((RowC.one (L:=kE) (c:=[.slice PA pn pc]) ⟨PA,pc,by rw[Mp.out.1],WC.out.1⟩).app (RowC.one (L:=kE) (c:=[.slice SA sn sc]) ⟨SA,sc,by rw[Mp.out.2],WC.out.2⟩)) 22 (by simp);obtain⟨wz,kJ⟩:∃ wz,w3.alloc (.cells #[.slice PA pn pc,.slice SA sn sc] 22)=wz:=⟨_,rfl⟩
 have xT:Grows w H wz H4:=by rw[← kJ];exact xj
 have AL:=Hh (gD wz xT.holds (n:=2) rfl i7);replace hb:=xT.below;replace ob:=ob.alloc (.cells #[.slice PA pn pc,.slice SA sn sc] 22);replace y8:=y8.alloc (.cells #[.slice PA pn pc,.slice SA sn sc] 22);rw[kJ]at ob y8;have bU:=Hh kJ;clear i7 MQ xj xT;go_wp2_with fail
 try rw[bU.out]
 clear kJ bU
 refine AL.out.mono ?_
 rintro e w4 ⟨⟨b4,rfl,tX⟩,rfl⟩
 have mz:=Hh tX;clear tX AL
 cases b4 with
 | false =>
  exact jaO
 | true =>
 simp only[Bool.not_true]
 by_cases iu:(300:Int)<(name.size:Int)
 ·clear mz;exact jaO
 have RAW:Hid (GpA H raw ra):=Dy.out.small (KQ.out (by trivial));have MEM:Hid (MemA H m ma):=Gh.out.small ((KR.out (by trivial)).2 m (by simp));have PXS:Hid (px.length≤900∧sx.length≤900):=⟨mz.out (by trivial) px (by simp),mz.out (by trivial) sx (by simp)⟩
 go_upto_region 3 with fail
 clear mz KQ KR Dy Gh iu;go_wp2_with fail
 refine(NW.out _).mono ?_
 rintro e w5 ⟨rfl,JS,qe⟩
 have hL:LW w H w4.heap.size (gpC ra.ia rl ra.ic ra.sa rs ra.sc raw.number ra.ma rm ra.mc) (yW m.name m.roles m.since ma.sa ls ma.sc ma.ca lc ma.cc ma.ha lh ma.hc ma.wa lw ma.wc) w5 H :=
  ⟨(Grows.of_below HH.out hb).trans (Grows.of_below (HH.out.below hb (Nat.le_refl _)) qe),⟨JS,HH.out.below (hb.trans (qe.mono hb.size)) (Nat.le_refl _),HH.out.none_of_ge hb.size⟩,ob.below qe,y8.below qe,y8.lt⟩
 obtain⟨gd,bY⟩:∃ gd,w4.heap.size=gd:=⟨_,rfl⟩
 rw[bY]at hL⊢;clear JS qe NW bY ob y8 hb;have GC:=Hh (GR.out H (Snap.le.refl H) gd w5 hL.deck);go_wp2_with fail
 refine GC.out.mono ?_
 rintro e w6 ⟨g,a,H6,rfl,xS,sG⟩
 replace hL:=hL.step xS;have hQ:=hL.new 25 (gpQ g a);replace hL:=hL.alloc (.cells (gpQ g a) 25);obtain⟨G,hG⟩:∃ G,w6.heap.size=G:=⟨_,rfl⟩
 obtain⟨w7,Jk⟩:∃ w7,w6.alloc (.cells (gpQ g a) 25)=w7:=⟨_,rfl⟩
 rw[hG,Jk]at hQ;rw[Jk]at hL;have HW:=Hh (And.intro hG Jk);have gk:=Hh sG;clear hG Jk xS sG GC;go_upto_region 5 with fail
 try rw[HW.out.1]
 try rw[HW.out.2]
 clear HW;go_wp2_with fail
 refine(vG _ hL.deck 9 (by omega) (by omega)).mono ?_
 rintro e w8 ⟨r,rfl,hr,ul⟩
 have LJ:=ul.le;replace hL:=hL.step ul;replace hQ:=hQ.step ul;have Mz:=gk.out.mono LJ;have Dd:Hid (G1 w H gd G (gpC ra.ia rl ra.ic ra.sa rs ra.sc raw.number ra.ma rm ra.mc) (yW m.name m.roles m.since ma.sa ls ma.sc ma.ca lc ma.cc ma.ha lh ma.hc ma.wa lw ma.wc) w8):=⟨g,a,_,hL,hQ,Mz⟩
 clear ul hr LJ gk;go_upto_if 72 with fail
 go_cut [] (fun wx=>G1 w H gd G (gpC ra.ia rl ra.ic ra.sa rs ra.sc raw.number ra.ma rm ra.mc) (yW m.name m.roles m.since ma.sa ls ma.sc ma.ca lc ma.cc ma.ha lh ma.hc ma.wa lw ma.wc) wx)
 case first =>
  by_cases h0:(r:Int)=8
  case neg =>
   obtain⟨e1,e2,e3⟩:=xt h0;clear h0 hL hQ;go_wp2_with fail
   go_meet
   exact Dd.out
  obtain⟨e1,e2,e3⟩:=zK h0;clear h0;go_wp2_with (with_reducible refine zx ?_)
  refine zu rfl _ _ _ rfl rfl G 2 (.int .i64 65535) rfl rfl _ _ hQ.blk (by kernel_rfl) (by simp) rfl fun w9 iI yO=>?_
  have Ce:=hL.put hQ yO;have Ci:BQ w gd G 25 (gpQ { g with number:=65535 } a) w9 _:=⟨iI,hQ.free,hQ.neD,hQ.wQ⟩
  clear hL hQ iI yO;go_wp2_with fail
  go_meet
  exact⟨_,a,_,Ce,Ci,⟨Mz.id,Mz.secret,by show(-9223372036854775808:Int)≤65535∧(65535:Int)≤9223372036854775807;omega,Mz.members,Mz.small⟩⟩
 case rest =>
 clear hL hQ Dd Mz g a;obtain⟨g,a,Hg,hL,hQ,sG⟩:=hcut;have gk:=Hh sG;obtain⟨il,tL⟩:∃ k,k=g.id.length:=⟨_,rfl⟩
 obtain⟨sl,sJ⟩:∃ k,k=g.secret.length:=⟨_,rfl⟩
 obtain⟨ml,tP⟩:∃ k,k=g.members.length:=⟨_,rfl⟩
 have IE:gpQ g a=(gpC a.ia il a.ic a.sa sl a.sc g.number a.ma ml a.mc):=by rw[tL,sJ,tP]
 rw[IE]at hQ;have BE:=Hh IE;clear IE tL sJ tP sG;have g0:=hQ.blk.cell 0 rfl;have g1:=hQ.blk.cell 1 rfl;have g2:=hQ.blk.cell 2 rfl;have g3:=hQ.blk.cell 3 rfl;have c0:=hL.b0.cell 0 rfl;have c1:=hL.b0.cell 1 rfl;have c2:=hL.b0.cell 2 rfl;have c3:=hL.b0.cell 3 rfl;obtain⟨H1,xg,Yu,FG⟩:=qr (L:=UI) (l:=[g,raw]) (Grows.refl hL.deck.holds) (cs:=[.slice a.ia il a.ic,.slice a.sa sl a.sc,.int .i64 g.number,.slice a.ma ml a.mc,.slice ra.ia rl ra.ic,.slice ra.sa rs ra.sc,.int .i64 raw.number,.slice ra.ma rm ra.mc]) ((RowC.one (L:=UI) (c:=[.slice a.ia il a.ic,.slice a.sa sl a.sc,.int .i64 g.number,.slice a.ma ml a.mc]) ⟨a,by rw[BE.out],gk.out⟩).app (RowC.one (L:=UI) (c:=[.slice ra.ia rl ra.ic,.slice ra.sa rs ra.sc,.int .i64 raw.number,.slice ra.ma rm ra.mc]) ⟨ra,by rw[Bc.out],RAW.out.mono hL.grows.le⟩)) 25 (by simp);obtain⟨L1,Ht⟩:∃ z,wc.heap.size=z:=⟨_,rfl⟩
 obtain⟨wz,S3⟩:∃ z,wc.alloc (.cells #[.slice a.ia il a.ic,.slice a.sa sl a.sc,.int .i64 g.number,.slice a.ma ml a.mc,.slice ra.ia rl ra.ic,.slice ra.sa rs ra.sc,.int .i64 raw.number,.slice ra.ma rm ra.mc] 25)=z:=⟨_,rfl⟩
 have zM:Grows wc Hg wz H1:=by rw[← S3];exact xg
 replace hL:=hL.grow zM;have Ba:Hid (IsRow UI H1 (some ⟨L1,0,none⟩) 2 [g,raw]):=by rw[Hid,← Ht];exact FG
 have Hb:=Hh (And.intro Ht S3);have hE:OEx w H gd (gpC ra.ia rl ra.ic ra.sa rs ra.sc raw.number ra.ma rm ra.mc) (yW m.name m.roles m.since ma.sa ls ma.sc ma.ca lc ma.cc ma.ha lh ma.hc ma.wa lw ma.wc) H1 wz:=⟨H1,hL,Snap.le.refl H1⟩
 have AT:=Hh hL.grows.le;clear xg zM Yu FG Ht S3 hL hQ;go_wp2_with fail
 try rw[Hb.out.1]
 try rw[Hb.out.2]
 clear Hb g0 g1 g2 g3 c0 c1 c2 c3;go_loopw [78] (fun v78 wr=>∃ i:Nat,v78=.int .i64 (i:Int)∧Hid (i≤2)∧OEx w H gd (gpC ra.ia rl ra.ic ra.sa rs ra.sc raw.number ra.ma rm ra.mc) (yW m.name m.roles m.since ma.sa ls ma.sc ma.ca lc ma.cc ma.ha lh ma.hc ma.wa lw ma.wc) H1 wr) (fun v78 _=>3-(intOf v78).toNat)
 case atStart=>exact⟨0,rfl,Nat.zero_le _,hE⟩
 case round =>
 clear hE;obtain⟨i,rfl,Ro,Hr,hL,xO⟩:=hrel;have sk:=Hh xO;clear xO
 by_cases sH:(i:Int)<2
 case neg =>
  go_upto_region 33 with fail
  clear sH;have C1:=Hh (qh (HS.out.mono hL.grows.le) (ca:=pc) (cb:=sc) (x:=px) (y:=sx) Mp.out.1 Mp.out.2 (by have:=PXS.out.1;omega) (by have:=PXS.out.2;omega) wr hL.deck.holds (Src.of_row (WC.out.1.mono hL.grows.le).row hL.deck.holds) (Src.of_row (WC.out.2.mono hL.grows.le).row hL.deck.holds));go_wp2_with fail
  refine C1.out.mono ?_
  rintro e w7 ⟨u1,a1,H7,q1,rfl,xp,ww,oL⟩
  have Yn:=Hh ww;have gj:=Hh oL;replace hL:=hL.grow xp;clear xp ww oL C1;have uR:=hL.new 25 (gpQ u1 a1);replace hL:=hL.alloc (.cells (gpQ u1 a1) 25);obtain⟨N1,qN1⟩:∃ z,w7.heap.size=z:=⟨_,rfl⟩
  obtain⟨w8,qw8⟩:∃ z,w7.alloc (.cells (gpQ u1 a1) 25)=z:=⟨_,rfl⟩
  rw[qN1,qw8]at uR;rw[qw8]at hL;have jX:=Hh (And.intro qN1 qw8);clear qN1 qw8;go_upto_region 34 with fail
  try rw[jX.out.1]
  try rw[jX.out.2]
  clear jX;have C2:=Hh (pi (sP:=sP) (ca:=pc) (cb:=sc) (x:=px) (y:=sx) Mp.out.1 Mp.out.2 w8 hL.deck.holds (Src.of_row (WC.out.1.mono hL.grows.le).row hL.deck.holds) (Src.of_row (WC.out.2.mono hL.grows.le).row hL.deck.holds));go_wp2_with fail
  refine C2.out.mono ?_
  rintro e w9 ⟨u2,a2,H9,q2,rfl,vy,xB,dD⟩
  obtain⟨Rh,Rl⟩:=gj.out.unique dD;subst Rh;subst Rl;have Z7:=Hh xB;replace hL:=hL.grow vy;replace uR:=uR.grow vy;replace Yn:=Hh (Yn.out.mono vy.le);clear vy xB dD C2 gj;have rC:=hL.new 25 (gpQ u1 a2);replace hL:=hL.alloc (.cells (gpQ u1 a2) 25);replace uR:=uR.alloc (.cells (gpQ u1 a2) 25);obtain⟨N2,qN2⟩:∃ z,w9.heap.size=z:=⟨_,rfl⟩
  obtain⟨wD,qwD⟩:∃ z,w9.alloc (.cells (gpQ u1 a2) 25)=z:=⟨_,rfl⟩
  rw[qN2,qwD]at rC;rw[qwD]at hL uR;have bU:=Hh (And.intro qN2 qwD);clear qN2 qwD;go_upto_region 35 with fail
  try rw[bU.out.1]
  try rw[bU.out.2]
  clear bU;go_wp2_with fail
  refine(vG _ hL.deck 10 (by omega) (by omega)).mono ?_
  rintro e wE ⟨r,rfl,hr,ND⟩
  replace hL:=hL.step ND;replace uR:=uR.step ND;replace rC:=rC.step ND;replace Yn:=Hh (Yn.out.mono ND.le);replace Z7:=Hh (Z7.out.mono ND.le);have Dx:=Hh hr;clear ND hr;go_wp2_with fail
  refine(SM.out 1 r wE (by have:=Dx.out;omega)).mono ?_
  rintro e wF ⟨P3,c3,l3,rfl,Yv,XC⟩
  obtain⟨HF,My,Rb,lZ⟩:=Fresh.snapB hL.deck.holds XC;have UK:=Hh Rb;have Gf:=Hh Yv;replace hL:=hL.grow My;replace uR:=uR.grow My;replace rC:=rC.grow My;replace Yn:=Hh (Yn.out.mono My.le);replace Z7:=Hh (Z7.out.mono My.le);clear XC Rb lZ Yv My;go_wp2_with fail
  refine(SD.out 2 _).mono ?_
  rintro e wG ⟨A4,c4,rfl,Ez⟩
  obtain⟨HG4,US,Uc,Ug⟩:=Fresh.snapB hL.deck.holds Ez;have Df:=Hh Uc;replace hL:=hL.grow US;replace uR:=uR.grow US;replace rC:=rC.grow US;replace Yn:=Hh (Yn.out.mono US.le);replace Z7:=Hh (Z7.out.mono US.le);replace UK:=Hh (UK.out.mono US.le);clear Ez Uc Ug US;have C3:=Hh (qh (HS.out.mono hL.grows.le) (ca:=c3) (cb:=c4) (x:=l3) (y:=gU 2) (n:=r) (m:=32) Gf.out.symm (nR 2).symm (by have:=Gf.out;have:=Dx.out;omega) (by rw[nR];omega) wG hL.deck.holds (Src.of_row UK.out.row hL.deck.holds) (Src.of_row Df.out.row hL.deck.holds));go_wp2_with fail
  refine C3.out.mono ?_
  rintro e wH ⟨u3,a3,HH5,q3,rfl,Ov,RX,MC⟩
  have RK:=Hh RX;have Rn:=Hh MC;replace hL:=hL.grow Ov;replace uR:=uR.grow Ov;replace rC:=rC.grow Ov;replace Yn:=Hh (Yn.out.mono Ov.le);replace Z7:=Hh (Z7.out.mono Ov.le);replace UK:=Hh (UK.out.mono Ov.le);clear Ov RX MC C3 Df;have Yq:=hL.new 25 (gpQ u3 a3);replace hL:=hL.alloc (.cells (gpQ u3 a3) 25);replace uR:=uR.alloc (.cells (gpQ u3 a3) 25);replace rC:=rC.alloc (.cells (gpQ u3 a3) 25);obtain⟨N3,qN3⟩:∃ z,wH.heap.size=z:=⟨_,rfl⟩
  obtain⟨wI,qwI⟩:∃ z,wH.alloc (.cells (gpQ u3 a3) 25)=z:=⟨_,rfl⟩
  rw[qN3,qwI]at Yq;rw[qwI]at hL uR rC;have Gz:=Hh (And.intro qN3 qwI);clear qN3 qwI;go_upto_region 37 with fail
  try rw[Gz.out.1]
  try rw[Gz.out.2]
  clear Gz;go_wp2_with fail
  refine(SD.out 2 _).mono ?_
  rintro e wJ ⟨A5,c5,rfl,ua⟩
  obtain⟨Dc,RO,eA,Uh⟩:=Fresh.snapB hL.deck.holds ua;have Dg:=Hh eA;replace hL:=hL.grow RO;replace uR:=uR.grow RO;replace rC:=rC.grow RO;replace Yq:=Yq.grow RO;replace Yn:=Hh (Yn.out.mono RO.le);replace Z7:=Hh (Z7.out.mono RO.le);replace RK:=Hh (RK.out.mono RO.le);replace UK:=Hh (UK.out.mono RO.le);clear ua eA Uh RO;have C4:=Hh (pi (sP:=sP) (ca:=c3) (cb:=c5) (x:=l3) (y:=gU 2) (n:=r) (m:=32) Gf.out.symm (nR 2).symm wJ hL.deck.holds (Src.of_row UK.out.row hL.deck.holds) (Src.of_row Dg.out.row hL.deck.holds));go_wp2_with fail
  refine C4.out.mono ?_
  rintro e wK ⟨u4,a4,HH6,q4,rfl,Ph,rW,P6⟩
  obtain⟨Rh,Rl⟩:=Rn.out.unique P6;subst Rh;subst Rl;have Bg:=Hh rW;replace hL:=hL.grow Ph;replace uR:=uR.grow Ph;replace rC:=rC.grow Ph;replace Yq:=Yq.grow Ph;replace Yn:=Hh (Yn.out.mono Ph.le);replace Z7:=Hh (Z7.out.mono Ph.le);replace RK:=Hh (RK.out.mono Ph.le);clear Ph rW P6 C4 Rn UK Dg;have Rv:=hL.new 25 (gpQ u3 a4);replace hL:=hL.alloc (.cells (gpQ u3 a4) 25);replace uR:=uR.alloc (.cells (gpQ u3 a4) 25);replace rC:=rC.alloc (.cells (gpQ u3 a4) 25);replace Yq:=Yq.alloc (.cells (gpQ u3 a4) 25);obtain⟨N4,qN4⟩:∃ z,wK.heap.size=z:=⟨_,rfl⟩
  obtain⟨wL,qwL⟩:∃ z,wK.alloc (.cells (gpQ u3 a4) 25)=z:=⟨_,rfl⟩
  rw[qN4,qwL]at Rv;rw[qwL]at hL uR rC Yq;have Ha:=Hh (And.intro qN4 qwL);clear qN4 qwL;go_upto_region 38 with fail
  try rw[Ha.out.1]
  try rw[Ha.out.2]
  clear Ha;obtain⟨e1,e2,e3⟩:=zK (rfl:q1=q1);obtain⟨e4,e5,e6⟩:=zK (rfl:q3=q3);have SE:=Hh (rZ Yn.out Z7.out _ hL.deck.holds);have p0:=uR.blk.cell 0 rfl;have o0:=rC.blk.cell 0 rfl;have p1:=uR.blk.cell 1 rfl;have o1:=rC.blk.cell 1 rfl;have p2:=uR.blk.cell 2 rfl;have o2:=rC.blk.cell 2 rfl;have p3:=uR.blk.cell 3 rfl;have o3:=rC.blk.cell 3 rfl;go_wp2_with fail
  refine SE.out.mono ?_
  rintro e wM ⟨rfl,JP⟩
  replace hL:=hL.below JP;replace Yq:=Yq.below JP;replace Rv:=Rv.below JP;clear JP SE p0 p1 p2 p3 o0 o1 o2 o3 uR rC;have SE:=Hh (rZ RK.out Bg.out _ hL.deck.holds);have p0:=Yq.blk.cell 0 rfl;have o0:=Rv.blk.cell 0 rfl;have p1:=Yq.blk.cell 1 rfl;have o1:=Rv.blk.cell 1 rfl;have p2:=Yq.blk.cell 2 rfl;have o2:=Rv.blk.cell 2 rfl;have p3:=Yq.blk.cell 3 rfl;have o3:=Rv.blk.cell 3 rfl;go_wp2_with fail
  refine SE.out.mono ?_
  rintro e wN ⟨rfl,im⟩
  replace hL:=hL.below im;clear im SE p0 p1 p2 p3 o0 o1 o2 o3 Yq Rv;have AX:=Hh (AW.out wN _ hL.grows.le hL.deck.holds);go_wp2_with fail
  refine AX.out.mono ?_
  rintro e wO ⟨rfl,Eu⟩
  have yg:=hL.grows.below.trans (Eu.mono hL.grows.below.size);clear hL Eu AX;go_wp2_with fail
  go_ret
  exact⟨rfl,yg⟩
 have Gc:=Hh sH;obtain⟨gb,go,MI,uF⟩:=Ba.out.at_ (by simp)
 cases MI
 obtain⟨d,hd,hc⟩:=uF i (by simp;omega);obtain⟨xa,hd,th⟩:=hd;subst hd;obtain⟨x,hx⟩:∃ x,[g,raw][i]'(by simp;omega)=x:=⟨_,rfl⟩
 rw[hx]at hc th;have qS:=Hh th;obtain⟨xl,ZG⟩:∃ k,x.id.length=k:=⟨_,rfl⟩
 obtain⟨xs,bg⟩:∃ k,x.secret.length=k:=⟨_,rfl⟩
 obtain⟨xm,Q3⟩:∃ k,x.members.length=k:=⟨_,rfl⟩
 have yB:=hL.deck.holds;have r0:=yB.cell (sk.out.cell (hc 0 _ rfl));have r1:=yB.cell (sk.out.cell (hc 1 _ rfl));have r2:=yB.cell (sk.out.cell (hc 2 _ rfl));have r3:=yB.cell (sk.out.cell (hc 3 _ rfl))
 simp only[UI,Nat.add_zero,Nat.zero_add,← Nat.add_assoc]at r0 r1 r2 r3
 rw[ZG]at r0;rw[bg]at r1;rw[Q3]at r3;have ep:=Hh (And.intro ZG (And.intro bg Q3));have VP:Hid (∀ (K:Snap) (wx:World),H.le K→H1.le K→Holds wx K→Calls Tryz.prog 11 #[.agg (gpC xa.ia xl xa.ic xa.sa xs xa.sc x.number xa.ma xm xa.mc)] wx (wk sP wx x)):=fun K wx h1 h2 h3=>by rw[← ZG,← bg,← Q3];exact tQ (HS.out.mono h1) (th.mono h2) wx h3
 have VR:Hid (∀ (K:Snap) (wx:World),H.le K→H1.le K→Holds wx K→Calls Tryz.prog 12 #[.agg (gpC xa.ia xl xa.ic xa.sa xs xa.sc x.number xa.ma xm xa.mc)] wx (wk sP wx x)):=fun K wx h1 h2 h3=>by rw[← ZG,← bg,← Q3];exact rL (HR.out.mono h1) (th.mono h2) wx h3
 clear uF hc th yB hx ZG bg Q3;have hX:=hL.new 25 (gpC xa.ia xl xa.ic xa.sa xs xa.sc x.number xa.ma xm xa.mc);replace hL:=hL.alloc (.cells (gpC xa.ia xl xa.ic xa.sa xs xa.sc x.number xa.ma xm xa.mc) 25);obtain⟨X,qX⟩:∃ z,wr.heap.size=z:=⟨_,rfl⟩
 obtain⟨w6,qw6⟩:∃ z,wr.alloc (.cells (gpC xa.ia xl xa.ic xa.sa xs xa.sc x.number xa.ma xm xa.mc) 25)=z:=⟨_,rfl⟩
 rw[qX,qw6]at hX;rw[qw6]at hL;have rp:=Hh (And.intro qX qw6);clear qX qw6;go_upto_region 10 with fail
 try rw[rp.out.1]
 try rw[rp.out.2]
 clear rp;clear r0 r1 r2 r3 sH;go_cut [86] (fun s86 wx=>s86=.bool false∧IEx w H gd X (gpC ra.ia rl ra.ic ra.sa rs ra.sc raw.number ra.ma rm ra.mc) (yW m.name m.roles m.since ma.sa ls ma.sc ma.ca lc ma.cc ma.ha lh ma.hc ma.wa lw ma.wc) (gpC xa.ia xl xa.ic xa.sa xs xa.sc x.number xa.ma xm xa.mc) H1 wx)
 case first =>
  replace hL:=hL.drew;replace hX:=hX.drew
  refine zj 5 (fun wx=>wx.cell? ⟨X,0,none⟩=some (.slice xa.ia xl xa.ic)∧wx.cell? ⟨X,1,none⟩=some (.slice xa.sa xs xa.sc)∧wx.cell? ⟨X,2,none⟩=some (.int .i64 x.number)∧wx.cell? ⟨X,3,none⟩=some (.slice xa.ma xm xa.mc)) (by kernel_rfl) (⟨hX.blk.cell 0 rfl,hX.blk.cell 1 rfl,hX.blk.cell 2 rfl,hX.blk.cell 3 rfl⟩) (fun zy=>?_)
  refine TkS 0 rfl zy ?_
  refine TkS 2 rfl zy ?_
  refine To 1 rfl fun K hK=>?_
  go_simp
  refine(VP.out _ _ hL.grows.le sk.out hL.deck.holds).mono ?_
  rintro e w7 ⟨b1,rfl,FQ,xR⟩
  have Ot:=Hh FQ;have hL:=hL.below xR;have hX:=hX.below xR;clear xR FQ
  refine Ko hK ?_ fun zy=>?_
  ·exact jdq
  clear hK K
  refine To 3 rfl fun K hK=>?_
  go_simp
  refine(VR.out _ _ hL.grows.le sk.out hL.deck.holds).mono ?_
  rintro e w8 ⟨b3,rfl,FT,xy⟩
  have Bi:=Hh FT;have hL:=hL.below xy;have hX:=hX.below xy;clear xy FT
  refine Ko hK ?_ fun zy=>?_
  ·exact jdq
  clear hK K
  refine TkS 4 rfl zy ?_
  refine Wd ?_
  clear zy;have Ys:b1=b3:=by rw[Bool.eq_iff_iff,Ot.out,Bi.out]
  subst Ys;go_wp2_with fail
  go_meet
  exact⟨by cases b1 <;> rfl,_,hL,hX,sk.out⟩
 case rest =>
 clear hL hX VP VR sk Hr;obtain⟨rfl,Hr,hL,hX,xO⟩:=hcut;go_upto_region 12 with fail
 go_cut [93,94,95] (fun s93 s94 s95 wx=>∃ (L2:Nat) (pm:Mb) (H2:Snap),s93=.slice (some ⟨L2,0,none⟩) 2 2∧s94=.int .i64 2∧s95=.int .i64 0∧IsRow vQ H2 (some ⟨L2,0,none⟩) 2 [m,pm]∧H1.le H2∧IEx w H gd X (gpC ra.ia rl ra.ic ra.sa rs ra.sc raw.number ra.ma rm ra.mc) (yW m.name m.roles m.since ma.sa ls ma.sc ma.ca lc ma.cc ma.ha lh ma.hc ma.wa lw ma.wc) (gpC xa.ia xl xa.ic xa.sa xs xa.sc x.number xa.ma xm xa.mc) H2 wx)
 case first =>
  replace hL:=hL.drew;replace hX:=hX.drew
  refine zj 9 (fun wx=>wx.cell? ⟨w.heap.size+1,0,none⟩=some (.string m.name)∧wx.cell? ⟨w.heap.size+1,1,none⟩=some (.slice ma.sa ls ma.sc)∧wx.cell? ⟨w.heap.size+1,2,none⟩=some (.int .i64 m.roles)∧wx.cell? ⟨w.heap.size+1,3,none⟩=some (.slice ma.ca lc ma.cc)∧wx.cell? ⟨w.heap.size+1,4,none⟩=some (.slice ma.ha lh ma.hc)∧wx.cell? ⟨w.heap.size+1,5,none⟩=some (.slice ma.wa lw ma.wc)∧wx.cell? ⟨w.heap.size+1,6,none⟩=some (.int .i64 m.since)) (by kernel_rfl) (⟨hL.b1.cell 0 rfl,hL.b1.cell 1 rfl,hL.b1.cell 2 rfl,hL.b1.cell 3 rfl,hL.b1.cell 4 rfl,hL.b1.cell 5 rfl,hL.b1.cell 6 rfl⟩) (fun zy=>?_)
  refine TkS 0 rfl zy ?_
  refine TkS 1 rfl zy ?_
  refine TkS 3 rfl zy ?_
  refine TkS 8 rfl zy ?_
  refine To 2 rfl fun K hK=>?_
  go_simp
  refine(vG _ hL.deck 9 (by omega) (by omega)).mono ?_
  rintro e w2 ⟨r2,rfl,Uu,vO⟩
  have hL:=hL.step vO;have hX:=hX.step vO;have xO:=xO.trans vO.le;clear Uu vO
  refine Ko hK ?_ fun zy=>?_
  ·exact jbd
  clear hK K
  refine To 4 rfl fun K hK=>?_
  go_simp
  refine(vG _ hL.deck 9 (by omega) (by omega)).mono ?_
  rintro e w4 ⟨r4,rfl,i7,tp⟩
  have hL:=hL.step tp;have hX:=hX.step tp;have xO:=xO.trans tp.le;clear i7 tp
  refine Ko hK ?_ fun zy=>?_
  ·exact jbd
  clear hK K
  refine To 5 rfl fun K hK=>?_
  go_simp
  refine(HP.out _ hL.grows.le _ _ _ hL.deck.holds).mono ?_
  rintro e w5 ⟨pm,pa,H5,rfl,xT,PD,Uf⟩
  have BW:=Hh PD;have hL:=hL.grow xT;have hX:=hX.grow xT;have xO:=xO.trans xT.le;clear xT PD Uf
  refine Ko hK ?_ fun zy=>?_
  ·exact jbd
  clear hK K
  refine To 6 rfl fun K hK=>?_
  go_simp
  obtain⟨H6,xW,IV,FH⟩:=qr (L:=vQ) (l:=[m,pm]) (Grows.refl hL.deck.holds) (cs:=[.string m.name,.slice ma.sa ls ma.sc,.int .i64 m.roles,.slice ma.ca lc ma.cc,.slice ma.ha lh ma.hc,.slice ma.wa lw ma.wc,.int .i64 m.since,.string pm.name,.slice pa.sa pm.sender.length pa.sc,.int .i64 pm.roles,.slice pa.ca pm.cred.length pa.cc,.slice pa.ha pm.share.length pa.hc,.slice pa.wa pm.wrap.length pa.wc,.int .i64 pm.since]) ((RowC.one (L:=vQ) (c:=[.string m.name,.slice ma.sa ls ma.sc,.int .i64 m.roles,.slice ma.ca lc ma.cc,.slice ma.ha lh ma.hc,.slice ma.wa lw ma.wc,.int .i64 m.since]) ⟨ma,by rw[Do.out],MEM.out.mono hL.grows.le⟩).app (RowC.one (L:=vQ) (c:=[.string pm.name,.slice pa.sa pm.sender.length pa.sc,.int .i64 pm.roles,.slice pa.ca pm.cred.length pa.cc,.slice pa.ha pm.share.length pa.hc,.slice pa.wa pm.wrap.length pa.wc,.int .i64 pm.since]) ⟨pa,rfl,BW.out⟩)) 27 (by simp)
  have hL:=hL.grow xW;have hX:=hX.grow xW;have xO:=xO.trans xW.le;have Bb:=Hh FH;clear xW IV FH
  refine Ko hK ?_ fun zy=>?_
  ·exact jbd
  clear hK K
  refine TkS 7 rfl zy ?_
  refine Wd ?_
  clear zy;go_wp2_with fail
  go_meet
  exact⟨_,pm,_,rfl,rfl,rfl,Bb.out,xO,_,hL,hX,Snap.le.refl _⟩
 case rest =>
 clear hL hX xO Hr;obtain⟨L2,pm,H2,rfl,rfl,rfl,Uu,LH,hE⟩:=hcut;have kF:=Hh Uu;have Ny:=Hh LH;clear Uu LH;go_wp2_with fail
 go_loopw [95] (fun v95 wr=>∃ j:Nat,v95=.int .i64 (j:Int)∧Hid (j≤2)∧IEx w H gd X (gpC ra.ia rl ra.ic ra.sa rs ra.sc raw.number ra.ma rm ra.mc) (yW m.name m.roles m.since ma.sa ls ma.sc ma.ca lc ma.cc ma.ha lh ma.hc ma.wa lw ma.wc) (gpC xa.ia xl xa.ic xa.sa xs xa.sc x.number xa.ma xm xa.mc) H2 wr) (fun v95 _=>3-(intOf v95).toNat)
 case atStart=>exact⟨0,rfl,Nat.zero_le _,hE⟩
 case round =>
 clear hE;obtain⟨j,rfl,HJ2,Hr,hL,hX,xO⟩:=hrel
 by_cases Ue:(j:Int)<2
 ·have wT:=Hh Ue;obtain⟨gb,go,MI,uF⟩:=kF.out.at_ (by simp)
  cases MI
  obtain⟨d,hd,hc⟩:=uF j (by simp;omega);obtain⟨ya,hd,eB⟩:=hd;subst hd;obtain⟨y,hy⟩:∃ y,[m,pm][j]'(by simp;omega)=y:=⟨_,rfl⟩
  rw[hy]at hc eB;have yB:=hL.deck.holds;have r0:=yB.cell (xO.cell (hc 0 _ rfl));have r1:=yB.cell (xO.cell (hc 1 _ rfl));have r2:=yB.cell (xO.cell (hc 2 _ rfl));have r3:=yB.cell (xO.cell (hc 3 _ rfl));have r4:=yB.cell (xO.cell (hc 4 _ rfl));have r5:=yB.cell (xO.cell (hc 5 _ rfl));have r6:=yB.cell (xO.cell (hc 6 _ rfl))
  simp only[vQ,Nat.add_zero,Nat.zero_add,← Nat.add_assoc]at r0 r1 r2 r3 r4 r5 r6
  have AD:Hid (∀ (K:Snap) (wx:World),H.le K→H2.le K→Holds wx K→Calls Tryz.prog 14 #[.agg (gpC xa.ia xl xa.ic xa.sa xs xa.sc x.number xa.ma xm xa.mc),.agg (y7 y ya)] wx (rO sP wx K x y)):=fun K wx h1 h2 h3=>by rw[← ep.out.1,← ep.out.2.1,← ep.out.2.2];exact mY (HS.out.mono h1) (qS.out.mono (Ny.out.trans h2)) (eB.mono h2) wx h3
  have AR:Hid (∀ (K:Snap) (wx:World),H.le K→H2.le K→Holds wx K→Calls Tryz.prog 15 #[.agg (gpC xa.ia xl xa.ic xa.sa xs xa.sc x.number xa.ma xm xa.mc),.agg (y7 y ya)] wx (rO sP wx K x y)):=fun K wx h1 h2 h3=>by rw[← ep.out.1,← ep.out.2.1,← ep.out.2.2];exact kZ (HR.out.mono h1) (qS.out.mono (Ny.out.trans h2)) (eB.mono h2) wx h3
  have sk:=Hh xO;clear uF hc eB yB hy xO;have hY:=hL.new 27 (y7 y ya);replace hL:=hL.alloc (.cells (y7 y ya) 27);replace hX:=hX.alloc (.cells (y7 y ya) 27);obtain⟨Y,qY⟩:∃ z,wr.heap.size=z:=⟨_,rfl⟩
  obtain⟨w6,qw6⟩:∃ z,wr.alloc (.cells (y7 y ya) 27)=z:=⟨_,rfl⟩
  rw[qY,qw6]at hY;rw[qw6]at hL hX;have rp:=Hh (And.intro qY qw6);clear qY qw6;go_upto_region 15 with fail
  try rw[rp.out.1]
  try rw[rp.out.2]
  clear rp;clear r0 r1 r2 r3 r4 r5 r6 Ue;obtain⟨z0,z1,z2,z3⟩:=jfU;have y0:=hY.blk.cell 0 rfl;have y1:=hY.blk.cell 1 rfl;have y2:=hY.blk.cell 2 rfl;have y3:=hY.blk.cell 3 rfl;have y4:=hY.blk.cell 4 rfl;have y5:=hY.blk.cell 5 rfl;have y6:=hY.blk.cell 6 rfl;go_wp2_with fail
  refine(AD.out _ _ hL.grows.le sk.out hL.deck.holds).mono ?_
  rintro e w7 ⟨x1,a1,H7,A1,c1,s1,q1,rfl,xp,ph,wu,bI⟩
  obtain⟨sn1,OV⟩:∃ k,s1.length=k:=⟨_,rfl⟩
  have O1:=Hh OV;rw[OV];have Um:=Hh (And.intro ph (And.intro wu bI));have Tq:=Hh (sk.out.trans xp.le);replace hL:=hL.grow xp;replace hX:=hX.grow xp;replace hY:=hY.grow xp;clear xp ph wu bI OV AD z0 z1 z2 z3 y0 y1 y2 y3 y4 y5 y6;have uR:=hL.new 25 (gpQ x1 a1);replace hL:=hL.alloc (.cells (gpQ x1 a1) 25);replace hX:=hX.alloc (.cells (gpQ x1 a1) 25);replace hY:=hY.alloc (.cells (gpQ x1 a1) 25);obtain⟨N1,qN1⟩:∃ z,w7.heap.size=z:=⟨_,rfl⟩
  obtain⟨w8,qw8⟩:∃ z,w7.alloc (.cells (gpQ x1 a1) 25)=z:=⟨_,rfl⟩
  rw[qN1,qw8]at uR;rw[qw8]at hL hX hY;have jX:=Hh (And.intro qN1 qw8);clear qN1 qw8;go_upto_region 16 with fail
  try rw[jX.out.1]
  try rw[jX.out.2]
  clear jX;obtain⟨z0,z1,z2,z3⟩:=jfU;have y0:=hY.blk.cell 0 rfl;have y1:=hY.blk.cell 1 rfl;have y2:=hY.blk.cell 2 rfl;have y3:=hY.blk.cell 3 rfl;have y4:=hY.blk.cell 4 rfl;have y5:=hY.blk.cell 5 rfl;have y6:=hY.blk.cell 6 rfl;go_wp2_with fail
  refine(AR.out _ _ hL.grows.le Tq.out hL.deck.holds).mono ?_
  rintro e w9 ⟨x2,a2,H9,A2,c2,s2,q2,rfl,vy,lg,kL,co⟩
  obtain⟨Rh,Rl,j0⟩:=Um.out.2.2.unique co;subst Rh;subst Rl;subst j0;rw[O1.out];have Pd:=Hh (And.intro lg kL);have Mr:=Hh (And.intro (Um.out.1.mono vy.le) (Um.out.2.1.mono vy.le));have Tr:=Hh (Tq.out.trans vy.le);have Be:=Hh co.len;replace hL:=hL.grow vy;replace hX:=hX.grow vy;replace hY:=hY.grow vy;replace uR:=uR.grow vy;clear vy lg kL co AR hY Um sk Tq z0 z1 z2 z3 y0 y1 y2 y3 y4 y5 y6;have rC:=hL.new 25 (gpQ x1 a2);replace hL:=hL.alloc (.cells (gpQ x1 a2) 25);replace hX:=hX.alloc (.cells (gpQ x1 a2) 25);replace uR:=uR.alloc (.cells (gpQ x1 a2) 25);obtain⟨N2,qN2⟩:∃ z,w9.heap.size=z:=⟨_,rfl⟩
  obtain⟨wD,qwD⟩:∃ z,w9.alloc (.cells (gpQ x1 a2) 25)=z:=⟨_,rfl⟩
  rw[qN2,qwD]at rC;rw[qwD]at hL hX uR;have bU:=Hh (And.intro qN2 qwD);clear qN2 qwD;go_upto_region 17 with fail
  try rw[bU.out.1]
  try rw[bU.out.2]
  clear bU;obtain⟨e1,e2,e3⟩:=zK (rfl:q1=q1);have EQ:=Hh (eqS _ hL.deck.holds (n:=sn1) (m:=sn1) O1.out.symm O1.out.symm (by have:=Be.out;omega) Mr.out.2 Pd.out.2);go_wp2_with fail
  refine EQ.out.mono ?_
  rintro e wA ⟨rfl,Po⟩
  replace hL:=hL.below Po;replace hX:=hX.below Po;replace uR:=uR.below Po;replace rC:=rC.below Po;clear Po EQ;have SE:=Hh (rZ Mr.out.1 Pd.out.1 _ hL.deck.holds);obtain⟨p0,p1,p2,p3,o0,o1,o2,o3⟩:=jgn;go_wp2_with fail
  refine SE.out.mono ?_
  rintro e wB ⟨rfl,UY⟩
  replace hL:=hL.below UY;replace hX:=hX.below UY;clear UY SE p0 p1 p2 p3 o0 o1 o2 o3 uR rC e1 e2 e3;have Mt:IntKind.i64.wrap ((j:Int)+1)=(j:Int)+1:=IntWalk.i64_in _ (by have:=wT.out;omega);have hE:IEx w H gd X (gpC ra.ia rl ra.ic ra.sa rs ra.sc raw.number ra.ma rm ra.mc) (yW m.name m.roles m.since ma.sa ls ma.sc ma.ca lc ma.cc ma.ha lh ma.hc ma.wa lw ma.wc) (gpC xa.ia xl xa.ic xa.sa xs xa.sc x.number xa.ma xm xa.mc) H2 wB:=⟨_,hL,hX,Tr.out⟩
  clear hL hX;go_wp2_with fail
  go_roundw
  case rel=>exact⟨j+1,by go_num,(by have:=wT.out;rw[Hid];omega),hE⟩
  case measure=>have:=wT.out;simp[intOf];omega
 have sk:=Hh (Ny.out.trans xO);go_upto_region 20 with fail
 clear Ue xO;go_wp2_with fail
 refine(vG _ hL.deck 9 (by omega) (by omega)).mono ?_
 rintro e w7 ⟨r,rfl,hr,ux⟩
 have Tq:=Hh (sk.out.trans ux.le);replace hL:=hL.step ux;replace hX:=hX.step ux;clear ux;obtain⟨y,hy⟩:∃ y:UInt8,(y.toNat:Int)=97+(r:Int):=⟨UInt8.ofNat (97+r),by rw[UInt8.toNat_ofNat_of_lt' (by show 97+r<256;omega)];omega⟩
 have kw1:IntKind.i64.wrap (97+(r:Int))=97+(r:Int):=IntWalk.i64_in _ (by omega);have kw2:IntKind.u8.wrap (97+(r:Int))=(y.toNat:Int):=by rw[hy];simp[IntKind.wrap,IntKind.bits,IntKind.signed];omega
 have k1:=xI (l:=[y]) (Src.new w7 #[.int .u8 (y.toNat:Int)] 5 w7.heap.size rfl [zT y] rfl) 1 1 rfl;replace hL:=hL.alloc (.cells #[.int .u8 (y.toNat:Int)] 5);replace hX:=hX.alloc (.cells #[.int .u8 (y.toNat:Int)] 5);obtain⟨H3,yY,Yv,Py⟩:=qr (L:=R1) (l:=[name,⟨[y].toArray⟩]) (Grows.refl hL.deck.holds) (cs:=[.string name,.string ⟨[y].toArray⟩]) ((RowC.one (L:=R1) (c:=[.string name]) rfl).app (RowC.one (L:=R1) (c:=[.string ⟨[y].toArray⟩]) rfl)) 9 (by simp);have hE:IEx w H gd X (gpC ra.ia rl ra.ic ra.sa rs ra.sc raw.number ra.ma rm ra.mc) (yW m.name m.roles m.since ma.sa ls ma.sc ma.ca lc ma.cc ma.ha lh ma.hc ma.wa lw ma.wc) (gpC xa.ia xl xa.ic xa.sa xs xa.sc x.number xa.ma xm xa.mc) H3 ((w7.alloc (.cells #[.int .u8 (y.toNat:Int)] 5)).alloc (.cells #[.string name,.string ⟨[y].toArray⟩] 9)):=⟨H3,hL.grow yY,hX.grow yY,Snap.le.refl H3⟩
 rw[zh]at Py;have Pc:=Hh Py;have Nz:=Hh (Tq.out.trans Yv);clear hy hr hL hX yY Yv Py;go_wp2_with fail
 clear kw1 kw2 k1
 generalize ((w7.alloc (.cells #[.int .u8 (y.toNat:Int)] 5)).alloc (.cells #[.string name,.string ⟨[y].toArray⟩] 9))=wq at hE⊢
 generalize w7.heap.size=L3 at Pc⊢
 go_loopw [138] (fun v138 wr=>∃ k:Nat,v138=.int .i64 (k:Int)∧Hid (k≤2)∧IEx w H gd X (gpC ra.ia rl ra.ic ra.sa rs ra.sc raw.number ra.ma rm ra.mc) (yW m.name m.roles m.since ma.sa ls ma.sc ma.ca lc ma.cc ma.ha lh ma.hc ma.wa lw ma.wc) (gpC xa.ia xl xa.ic xa.sa xs xa.sc x.number xa.ma xm xa.mc) H3 wr) (fun v138 _=>3-(intOf v138).toNat)
 case atStart=>exact⟨0,rfl,Nat.zero_le _,hE⟩
 case round =>
 clear hE;obtain⟨k,rfl,HK2,Hr,hL,hX,xO⟩:=hrel
 by_cases qf:(k:Int)<2
 ·have em:=Hh qf;obtain⟨gb,go,MI,uF⟩:=Pc.out.at_ (by simp)
  cases MI
  obtain⟨d,hd,hc⟩:=uF k (by simp;omega);obtain⟨z,hz⟩:∃ z,[name,(⟨[y].toArray⟩:ByteArray)][k]'(by simp;omega)=z:=⟨_,rfl⟩
  rw[hz]at hd
  cases hd
  have r0:=hL.deck.holds.cell (xO.cell (hc 0 _ rfl))
  simp only[R1,Nat.add_zero,Nat.zero_add,Nat.mul_one,← Nat.add_assoc]at r0
  have AD:Hid (∀ (K:Snap) (wx:World),H.le K→H3.le K→Holds wx K→Calls Tryz.prog 18 #[.agg (gpC xa.ia xl xa.ic xa.sa xs xa.sc x.number xa.ma xm xa.mc),.string z] wx (qG sP wx K x z)):=fun K wx h1 h2 h3=>by rw[← ep.out.1,← ep.out.2.1,← ep.out.2.2];exact iS (HS.out.mono h1) (qS.out.mono (Nz.out.trans h2)) z wx h3
  have AR:Hid (∀ (K:Snap) (wx:World),H.le K→H3.le K→Holds wx K→Calls Tryz.prog 19 #[.agg (gpC xa.ia xl xa.ic xa.sa xs xa.sc x.number xa.ma xm xa.mc),.string z] wx (qG sP wx K x z)):=fun K wx h1 h2 h3=>by rw[← ep.out.1,← ep.out.2.1,← ep.out.2.2];exact nf (HR.out.mono h1) (qS.out.mono (Nz.out.trans h2)) z wx h3
  have sk:=Hh xO;clear uF hc hz xO;go_upto_region 23 with fail
  clear r0 qf;obtain⟨z0,z1,z2,z3⟩:=jfU;go_wp2_with fail
  refine(AD.out _ _ hL.grows.le sk.out hL.deck.holds).mono ?_
  rintro e w8 ⟨x1,a1,H7,q1,rfl,xp,ph,bI⟩
  have Um:=Hh (And.intro ph bI);have YT:=Hh (sk.out.trans xp.le);replace hL:=hL.grow xp;replace hX:=hX.grow xp;clear xp ph bI AD z0 z1 z2 z3;have uR:=hL.new 25 (gpQ x1 a1);replace hL:=hL.alloc (.cells (gpQ x1 a1) 25);replace hX:=hX.alloc (.cells (gpQ x1 a1) 25);obtain⟨N1,qN1⟩:∃ z,w8.heap.size=z:=⟨_,rfl⟩
  obtain⟨wC,qwC⟩:∃ z,w8.alloc (.cells (gpQ x1 a1) 25)=z:=⟨_,rfl⟩
  rw[qN1,qwC]at uR;rw[qwC]at hL hX;have jX:=Hh (And.intro qN1 qwC);clear qN1 qwC;go_upto_region 24 with fail
  try rw[jX.out.1]
  try rw[jX.out.2]
  clear jX;obtain⟨z0,z1,z2,z3⟩:=jfU;go_wp2_with fail
  refine(AR.out _ _ hL.grows.le YT.out hL.deck.holds).mono ?_
  rintro e w9 ⟨x2,a2,H9,q2,rfl,vy,lg,co⟩
  obtain⟨Rh,Rl⟩:=Um.out.2.unique co;subst Rh;subst Rl;have Pd:=Hh lg;have Mr:=Hh (Um.out.1.mono vy.le);have Tr:=Hh (YT.out.trans vy.le);replace hL:=hL.grow vy;replace hX:=hX.grow vy;replace uR:=uR.grow vy;clear vy lg co AR Um sk YT z0 z1 z2 z3;have rC:=hL.new 25 (gpQ x1 a2);replace hL:=hL.alloc (.cells (gpQ x1 a2) 25);replace hX:=hX.alloc (.cells (gpQ x1 a2) 25);replace uR:=uR.alloc (.cells (gpQ x1 a2) 25);obtain⟨N2,qN2⟩:∃ z,w9.heap.size=z:=⟨_,rfl⟩
  obtain⟨wD,qwD⟩:∃ z,w9.alloc (.cells (gpQ x1 a2) 25)=z:=⟨_,rfl⟩
  rw[qN2,qwD]at rC;rw[qwD]at hL hX uR;have bU:=Hh (And.intro qN2 qwD);clear qN2 qwD;go_upto_region 25 with fail
  try rw[bU.out.1]
  try rw[bU.out.2]
  clear bU;obtain⟨e1,e2,e3⟩:=zK (rfl:q1=q1);have SE:=Hh (rZ Mr.out Pd.out _ hL.deck.holds);obtain⟨p0,p1,p2,p3,o0,o1,o2,o3⟩:=jgn;go_wp2_with fail
  refine SE.out.mono ?_
  rintro e wB ⟨rfl,UY⟩
  replace hL:=hL.below UY;replace hX:=hX.below UY;clear UY SE p0 p1 p2 p3 o0 o1 o2 o3 uR rC e1 e2 e3;have Mt:IntKind.i64.wrap ((k:Int)+1)=(k:Int)+1:=IntWalk.i64_in _ (by have:=em.out;omega);have hE:IEx w H gd X (gpC ra.ia rl ra.ic ra.sa rs ra.sc raw.number ra.ma rm ra.mc) (yW m.name m.roles m.since ma.sa ls ma.sc ma.ca lc ma.cc ma.ha lh ma.hc ma.wa lw ma.wc) (gpC xa.ia xl xa.ic xa.sa xs xa.sc x.number xa.ma xm xa.mc) H3 wB:=⟨_,hL,hX,Tr.out⟩
  clear hL hX;go_wp2_with fail
  go_roundw
  case rel=>exact⟨k+1,by go_num,(by have:=em.out;rw[Hid];omega),hE⟩
  case measure=>have:=em.out;simp[intOf];omega
 have sk:=Hh (Nz.out.trans xO);have AD:Hid (∀ (K:Snap) (wx:World),H.le K→H1.le K→Holds wx K→Calls Tryz.prog 20 #[.agg (gpC xa.ia xl xa.ic xa.sa xs xa.sc x.number xa.ma xm xa.mc)] wx (qH sP wx K x)):=fun K wx h1 h2 h3=>by rw[← ep.out.1,← ep.out.2.1,← ep.out.2.2];exact eJ (HS.out.mono h1) (qS.out.mono h2) wx h3
 have AR:Hid (∀ (K:Snap) (wx:World),H.le K→H1.le K→Holds wx K→Calls Tryz.prog 21 #[.agg (gpC xa.ia xl xa.ic xa.sa xs xa.sc x.number xa.ma xm xa.mc)] wx (qH sP wx K x)):=fun K wx h1 h2 h3=>by rw[← ep.out.1,← ep.out.2.1,← ep.out.2.2];exact kg (HR.out.mono h1) (qS.out.mono h2) wx h3
 go_upto_region 28 with fail
 clear qf xO;obtain⟨z0,z1,z2,z3⟩:=jfU;go_wp2_with fail
 refine(AD.out _ _ hL.grows.le sk.out hL.deck.holds).mono ?_
 rintro e w8 ⟨x1,a1,H7,q1,rfl,xp,ph,bI⟩
 have Um:=Hh (And.intro ph bI);have YT:=Hh (sk.out.trans xp.le);replace hL:=hL.grow xp;replace hX:=hX.grow xp;clear xp ph bI AD z0 z1 z2 z3;have uR:=hL.new 25 (gpQ x1 a1);replace hL:=hL.alloc (.cells (gpQ x1 a1) 25);replace hX:=hX.alloc (.cells (gpQ x1 a1) 25);obtain⟨N1,qN1⟩:∃ z,w8.heap.size=z:=⟨_,rfl⟩
 obtain⟨wC,qwC⟩:∃ z,w8.alloc (.cells (gpQ x1 a1) 25)=z:=⟨_,rfl⟩
 rw[qN1,qwC]at uR;rw[qwC]at hL hX;have jX:=Hh (And.intro qN1 qwC);clear qN1 qwC;go_upto_region 29 with fail
 try rw[jX.out.1]
 try rw[jX.out.2]
 clear jX;obtain⟨z0,z1,z2,z3⟩:=jfU;go_wp2_with fail
 refine(AR.out _ _ hL.grows.le YT.out hL.deck.holds).mono ?_
 rintro e w9 ⟨x2,a2,H9,q2,rfl,vy,lg,co⟩
 obtain⟨Rh,Rl⟩:=Um.out.2.unique co;subst Rh;subst Rl;have Pd:=Hh lg;have Mr:=Hh (Um.out.1.mono vy.le);have Tr:=Hh (YT.out.trans vy.le);replace hL:=hL.grow vy;replace hX:=hX.grow vy;replace uR:=uR.grow vy;clear vy lg co AR Um sk YT z0 z1 z2 z3;have rC:=hL.new 25 (gpQ x1 a2);replace hL:=hL.alloc (.cells (gpQ x1 a2) 25);replace hX:=hX.alloc (.cells (gpQ x1 a2) 25);replace uR:=uR.alloc (.cells (gpQ x1 a2) 25);obtain⟨N2,qN2⟩:∃ z,w9.heap.size=z:=⟨_,rfl⟩
 obtain⟨wD,qwD⟩:∃ z,w9.alloc (.cells (gpQ x1 a2) 25)=z:=⟨_,rfl⟩
 rw[qN2,qwD]at rC;rw[qwD]at hL hX uR;have bU:=Hh (And.intro qN2 qwD);clear qN2 qwD;go_upto_region 30 with fail
 try rw[bU.out.1]
 try rw[bU.out.2]
 clear bU;obtain⟨e1,e2,e3⟩:=zK (rfl:q1=q1);have SE:=Hh (rZ Mr.out Pd.out _ hL.deck.holds);obtain⟨p0,p1,p2,p3,o0,o1,o2,o3⟩:=jgn;go_wp2_with fail
 refine SE.out.mono ?_
 rintro e wB ⟨rfl,UY⟩
 replace hL:=hL.below UY;replace hX:=hX.below UY;clear UY SE p0 p1 p2 p3 o0 o1 o2 o3 uR rC e1 e2 e3;have Mt:IntKind.i64.wrap ((i:Int)+1)=(i:Int)+1:=IntWalk.i64_in _ (by have:=Gc.out;omega);have hE:OEx w H gd (gpC ra.ia rl ra.ic ra.sa rs ra.sc raw.number ra.ma rm ra.mc) (yW m.name m.roles m.since ma.sa ls ma.sc ma.ca lc ma.cc ma.ha lh ma.hc ma.wa lw ma.wc) H1 wB:=⟨_,hL,Tr.out⟩
 clear hL hX;go_wp2_with fail
 go_roundw
 case rel=>exact⟨i+1,by go_num,(by have:=Gc.out;rw[Hid];omega),hE⟩
 case measure=>have:=Gc.out;simp[intOf];omega
theorem ji (v:Int):∃ x:UInt8,Value.int .u8 (IntKind.u8.wrap v)=zT x:=by
 refine⟨UInt8.ofNat (v%256).toNat, ?_⟩
 have h:(v%256).toNat<256:=by omega
 rw[IntKind.wrap_u8,zT,UInt8.toNat_ofNat_of_lt' (by simpa using h)];congr 1
 omega
theorem cQ (n:Int) (w:World) :
  Calls Tryz.prog 25 #[.int .i64 n] w fun e w'=>∃ A c l,e=.returned (.slice A 32 c)∧l.length=32∧Fresh w l (.slice A 32 c) w':=by
 have xR:=Below.refl w.heap.size w;go_enter Tryz.func25,Tryz.ntmps25
 go_wp2_with fail
 go_loopw [3,5] (fun v3 v5 wr=>∃ (k:Nat) (VA:Option Addr) (vc vn:Nat) (l:List UInt8),k≤32∧v5=.int .i64 (k:Int)∧v3=.slice VA vn vc∧vn=k∧l.length=k∧OwnB wr w.heap.size (.slice VA vn vc) l∧Below w.heap.size w wr) (fun _ v5 _=>32-(intOf v5).toNat)
 case atStart=>exact⟨0,none,0,0,[],by omega,rfl,rfl,rfl,rfl,OwnB.nil _ _,xR⟩
 case round =>
 clear xR;obtain⟨k,VA,vc,vn,l,hk,rfl,rfl,iB,pO,vY,ws⟩:=hrel;have HK:=Hh hk;have HV:=Hh (And.intro iB pO);clear hk iB pO
 by_cases zB:k<32
 ·have iP:(k:Int)<32:=by omega
  have gw:decide ((k:Int)<32)=true:=decide_eq_true iP;have Uq:decide (k<32)=true:=decide_eq_true zB;have oa:=Hh zB;go_wp2_with (at_builtin;refine yq ?_)
  unfold z8
  obtain⟨x,hx⟩:∃ x:UInt8,Value.int .u8 (bits BinOp.xor IntKind.u8 (IntKind.u64.wrap n/2 ^ (8*(k%8))%256) (37*((k:Int)/8)))=zT x:=ji _
  generalize bits BinOp.xor IntKind.u8 (IntKind.u64.wrap n/2 ^ (8*(k%8))%256) (37*((k:Int)/8))=v at hx⊢
  have HC:Hid ((#[.int .u8 v]:Array Value).toList=[x].map zT):=by simp[Hid,← hx]
  have mQ:=vY.alloc (.cells #[.int .u8 v] 5);have zC:=ws.alloc ws.size (.cells #[.int .u8 v] 5)
  refine zW rfl (.tmp 8) (.tmp 22) rfl w.heap.size (.slice VA vn vc) l rfl mQ _ 1 _ [x] rfl rfl (Src.new _ _ _ _ rfl _ HC.out) (by have:=HV.out;have:=HK.out;simp;omega) zC.size fun v' w7 vr yQ hat7=>?_
  exact ja5
 have iP:¬ ((k:Int)<32):=by omega
 have gw:decide ((k:Int)<32)=false:=decide_eq_false iP;have Uq:decide (k<32)=false:=decide_eq_false zB;have Qu:k=32:=by have:=HK.out;omega
 have HL:Hid (l.length=32):=by have:=HV.out;rw[Hid];omega
 obtain rfl:vn=32:=by have:=HV.out;omega
 clear zB Qu;exact jd1
theorem ZX {H:Snap}{g:Nat}(w:World) (hD:DeckIn w g H) (n:Int) (hn:0≤n) (rY:n≤1048576) :
  Calls Tryz.prog 27 #[.pointer (some ⟨g,0,none⟩),.int .i64 n] w fun e w' =>
∃ A c n' l,e=.returned (.slice A n' c)∧n'=l.length∧(l.length:Int)≤n∧OwnB w' w.heap.size (.slice A n' c) l∧(∀ q,(Value.slice A n' c).ownBlock=some q→H q=none)∧Dealt w H w' H g:=by
 have NX:=Hh (vG w hD (n+1) (by omega) (by omega));have K0:IntKind.i64.wrap (n+1)=n+1:=IntWalk.i64_in _ (by omega);have yC:=hD.deck.lt;have HN:=Hh (And.intro hn rY);have HD:=Hh hD;clear hn rY hD;go_enter Tryz.func27,Tryz.ntmps27
 go_wp2_with fail
 refine NX.out.mono ?_
 rintro e w1 ⟨r,rfl,hr,Cp⟩
 have mQ:=OwnB.nil w1 w.heap.size;go_wp2_with fail
 go_loopw [5,6] (fun v5 v6 wr=>∃ (k:Nat) (VA:Option Addr) (vc vn:Nat) (l:List UInt8),v6=.int .i64 (k:Int)∧v5=.slice VA vn vc∧OwnB wr w.heap.size (.slice VA vn vc) l∧vn=l.length∧(l.length:Int)+k≤n∧Dealt w H wr H g∧(∀ q,(Value.slice VA vn vc).ownBlock=some q→H q=none)) (fun _ v6 _=>(intOf v6).toNat)
 case atStart=>exact⟨r,_,_,_,_,rfl,rfl,mQ,rfl,by simp;omega,Cp,by intro q hq;simp[Value.ownBlock]at hq⟩
 case round =>
 obtain⟨k,VA,vc,vn,l,rfl,rfl,vY,iB,pO,td,pQ⟩:=hrel;have HV:=Hh iB;have Iv:=Hh pO;clear iB pO
 by_cases zB:(0:Int)<(k:Int)
 ·have NX:=Hh (vG wr td.deck 256 (by omega) (by omega));go_wp2_with fail
  refine NX.out.mono ?_
  rintro e w2 ⟨q,rfl,hq,vO⟩
  have hd:=td.trans vO;have e7:=vY.dealt vO yC;have K1:IntKind.u8.wrap (q:Int)=(q:Int):=IntWalk.u8_in _ (by omega);have je:=e7.alloc (.cells #[.int .u8 (q:Int)] 5);have ve:=hd.alloc (.cells #[.int .u8 (q:Int)] 5)
  have HC:Hid ((#[.int .u8 (q:Int)]:Array Value).toList=[u8 q].map zT):=by
   simp only[Hid,List.map_cons,List.map_nil,x8]
   congr 2
   omega
  have rX:(-9223372036854775808:Int)≤(k:Int)-1∧(k:Int)-1≤9223372036854775807:=by have:=Iv.out;have:=HN.out;omega
  clear hq NX td vY vO e7 hd;go_wp2_with (at_builtin;refine yq ?_)
  unfold z8
  obtain rfl:=HV.out
  refine zW rfl (.tmp 15) (.tmp 19) rfl w.heap.size (.slice VA l.length vc) _ rfl je _ 1 _ [u8 q] rfl rfl (Src.new _ _ _ _ rfl _ HC.out) (by have:=Iv.out;have:=HN.out;simp;omega) ve.size fun v' w7 vr yQ hat7=>?_
  obtain⟨VA',vc',rfl,_⟩:=vr.form;have ux:=ve.grownRow pQ (fun q hq=>(je.lt q hq).1) yC yQ
  have la:∀ q',(Value.slice VA' (l++[u8 q]).length vc').ownBlock=some q'→H q'=none:=fun q' XH=>by
   rcases hat7 with h | ⟨g',h1,h2⟩
   ·exact pQ q' (by rw[← h,XH])
   rw[XH]at h1;injection h1 with h1
   subst h1
   exact ve.holds.none_of_ge h2
  have WN:(l++[u8 q]).length=l.length+1:=by simp
  rw[WN]at vr la;rw[WN];clear WN;have qf:IntKind.i64.wrap ((k:Int)-1)=(k:Int)-1:=IntWalk.i64_in _ rX;clear je yQ hat7 ve rX;go_wp2_with fail
  go_roundw
  case rel=>exact⟨k-1,VA',vc',_,_,by rw[show((k-1:Nat):Int)=(k:Int)-1 by omega],rfl,vr,by simp,by have:=Iv.out;simp;omega,ux,la⟩
  case measure=>simp[intOf];omega
 go_wp2_with fail
 go_ret
 exact⟨VA,vc,vn,rfl,l,HV.out,by have:=Iv.out;omega,vY,pQ,td⟩
end Go.Proofs.YtgaoknihklmakabGreatDoor
